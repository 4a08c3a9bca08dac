/- Part 4 of a framework of lemmas that the proofs of this seat use: what a function computes, told by plain values. No conditions. -/
import Derived.Test.YtegekpjkbedngaaGreatAc3
import Derived.Shelf.Strings.BuilderF
import Derived.Lib.FrozenHead2
import Derived.Shelf.Strings.BuilderK
import Derived.Laws.IdiomRangeMap
import Derived.RangeFuncIn
set_option linter.unusedVariables false
set_option linter.unusedSimpArgs false
set_option linter.unusedSectionVars false
set_option warn.classDefReducibility false
set_option linter.unusedSectionVars false
namespace Go.Ab
variable [Glob]
def rowP (c0 c1 : Value) : Nat → List AV
 | 0 => []
 | k + 1 => .p (.v c0) :: .p (.v c1) :: rowP c0 c1 k
def rowV (c0 c1 : Value) : Nat → List Value
 | 0 => []
 | k + 1 => c0 :: c1 :: rowV c0 c1 k
theorem rowP_rep {Z : Nat → Prop} {lb : Lb} {w : World} {c0 c1 : Value} (h0 : oneB c0 = true) (h1 : oneB c1 = true) : ∀ k, AReps Z lb w (rowP c0 c1 k) (rowV c0 c1 k)
 | 0 => rfl
 | k + 1 => ⟨_, _, rfl, by simp [ARep, Rep, h0], _, _, rfl, by simp [ARep, Rep, h1], rowP_rep h0 h1 k⟩
theorem rowV_one {c0 c1 : Value} (h0 : oneB c0 = true) (h1 : oneB c1 = true) : ∀ k, AllOne (rowV c0 c1 k)
 | 0 => fun x hx => by simp [rowV] at hx
 | k + 1 => fun x hx => by
  simp only [rowV, List.mem_cons] at hx
  rcases hx with rfl | rfl | hx
  ·exact h0
  ·exact h1
  ·exact rowV_one h0 h1 k x hx
theorem rowV_get {c0 c1 : Value} : ∀ (k j q : Nat) (u : Value), q < 2 → (rowV c0 c1 k)[j * 2 + q]? = some u → j < k ∧ u = (if q = 0 then c0 else c1)
 | 0, j, q, u, _, h => by simp [rowV] at h
 | k + 1, 0, q, u, hq, h => by
  rcases (by omega : q = 0 ∨ q = 1) with rfl | rfl <;> simp [rowV] at h <;> subst h <;> exact ⟨by omega, rfl⟩
 | k + 1, j + 1, q, u, hq, h => by
  rw [show (j + 1) * 2 + q = (j * 2 + q) + 2 by omega, rowV, List.getElem?_cons_succ, List.getElem?_cons_succ] at h
  have := rowV_get k j q u hq h
  exact ⟨by omega, this.2⟩
theorem rep_pair {Z : Nat → Prop} {w : World} {c0 c1 : Value} : ∀ (n : Nat) (vs : List Value), Reps Z w (List.replicate n (.agg [.v c0, .v c1])) vs → ∀ j, j < n → ∃ u, vs[j]? = some u ∧ vcells u = [c0, c1]
 | 0, _, _, j, hj => absurd hj (by omega)
 | n + 1, vs, h, j, hj => by
  simp only [List.replicate_succ, Reps] at h
  obtain ⟨u, us, rfl, h1, h2⟩ := h
  cases j with
  | zero =>
   refine ⟨u, rfl, ?_⟩
   simp only [Rep, Reps] at h1
   obtain ⟨_, ⟨_, _, rfl, ⟨rfl, _⟩, _, _, rfl, ⟨rfl, _⟩, rfl⟩, rfl, _⟩ := h1
   rfl
  | succ j =>
   obtain ⟨u', h3, h4⟩ := rep_pair n us h2 j (by omega)
   exact ⟨u', by simpa using h3, h4⟩
theorem st_pvar {Z : Nat → Prop} {lb : Lb} {s : ASt} {a : Act} {w : World} (h : St Z lb s a w) {i n K : Nat} {c0 c1 : Value} (hi : s.L[i]? = some (some (.arr 2 (List.replicate n (.agg [.v c0, .v c1]))))) (hn : 0 < n) (h0 : oneB c0 = true) (h1 : oneB c1 = true) :
  St Z lb { s with L := setL s.L i (some (.pvar (2 * n) (rowP c0 c1 K))) } a w := by
 obtain ⟨o, tm, df, sz⟩ := h
 rw [setL_eq]
 have hlt : i < s.L.length := by
  rcases Nat.lt_or_ge i s.L.length with h' | h'
  ·exact h'
  ·simp [List.getElem?_eq_none h'] at hi
 refine ⟨⟨by simp [o.len], fun j ob hj => ?_, fun j hj => ?_, fun j k o1 o2 b hj hk hl1 hl2 hb1 hb2 => ?_, o.zlt⟩, tm, df, sz⟩
 ·by_cases hij : i = j
  ·subst hij
   rw [List.getElem?_set_self hlt] at hj
   simp only [Option.some.injEq] at hj
   subst hj
   obtain ⟨x, g1, g2⟩ := o.obj i _ hi
   cases x with
   | none =>
    obtain ⟨e, _⟩ := g2
    have := congrArg List.length e
    simp at this; omega
   | some b =>
    obtain ⟨q1, q2, vs, arr, ty, fr, q3, q4, q5, q6, q7, q8, q9, q10⟩ := g2
    have hvl : vs.length = n := by rw [q3.length]; simp
    refine ⟨_, g1, q1, q2, rowV c0 c1 K, arr, ty, fr, rowP_rep h0 h1 K, rowV_one h0 h1 K, q6, q7, by omega, fun j u hj hu => ?_⟩
    have hd := Nat.div_add_mod j 2
    have hm := Nat.mod_lt j (show 0 < 2 by decide)
    rw [show j = j / 2 * 2 + j % 2 by omega] at hu ⊢
    obtain ⟨_, rfl⟩ := rowV_get K (j / 2) (j % 2) u hm hu
    obtain ⟨u', hu', hc⟩ := rep_pair n vs q3 (j / 2) (by omega)
    refine q8 (j / 2) u' hu' (j % 2) _ ?_
    rw [hc]
    rcases (by omega : j % 2 = 0 ∨ j % 2 = 1) with e | e <;> rw [e] <;> rfl
  ·rw [List.getElem?_set_ne hij] at hj
   exact o.obj j ob hj
 ·by_cases hij : i = j
  ·subst hij; rw [List.getElem?_set_self hlt] at hj; simp at hj
  ·rw [List.getElem?_set_ne hij] at hj; exact o.hole j hj
 ·have key : ∀ (j : Nat) (o' : Ob), (s.L.set i (some (.pvar (2 * n) (rowP c0 c1 K))))[j]? = some (some o') → o'.live → ∃ o'', s.L[j]? = some (some o'') ∧ o''.live := fun j o' hj hl => by
   by_cases hij : i = j
   ·subst hij; exact ⟨_, hi, trivial⟩
   ·rw [List.getElem?_set_ne hij] at hj; exact ⟨o', hj, hl⟩
  obtain ⟨p1, r1, s1⟩ := key j o1 hj hl1
  obtain ⟨p2, r2, s2⟩ := key k o2 hk hl2
  exact o.inj j k p1 p2 b r1 r2 s1 s2 hb1 hb2
theorem r_pvar {P : Program} {nb : Nat} {c : Code} {Q : Exit → ASt → Prop} {s : ASt} (i n K : Nat) (c0 c1 : Value) (hi : nth s.L i = some (some (.arr 2 (List.replicate n (.agg [.v c0, .v c1]))))) (hn : 0 < n) (h0 : oneB c0 = true) (h1 : oneB c1 = true)
  (h : awp P nb c Q { s with L := setL s.L i (some (.pvar (2 * n) (rowP c0 c1 K))) }) : awp P nb c Q s :=
 awp_st (fun Z lb a w hs => st_pvar hs (by rw [← nth_eq]; exact hi) hn h0 h1) h
end Go.Ab
namespace Go.Ab
variable [Glob]
theorem St.swap {Z : Nat → Prop} {lb : Lb} {s : ASt} {a : Act} {w : World} (h : St Z lb s a w) {i : Nat} {o o' : Ob} (hi : s.L[i]? = some (some o)) (hl : o'.live → o.live) (hob : ∀ x, lb[i]? = some (some x) → ObAt Z lb w o x → ObAt Z lb w o' x) :
  St Z lb { s with L := setL s.L i (some o') } a w := by
 obtain ⟨o0, tm, df, sz⟩ := h
 rw [setL_eq]
 have hlt : i < s.L.length := by
  rcases Nat.lt_or_ge i s.L.length with h' | h'
  ·exact h'
  ·simp [List.getElem?_eq_none h'] at hi
 refine ⟨⟨by simp [o0.len], fun j ob hj => ?_, fun j hj => ?_, fun j k o1 o2 b hj hk hl1 hl2 hb1 hb2 => ?_, o0.zlt⟩, tm, df, sz⟩
 ·by_cases hij : i = j
  ·subst hij
   rw [List.getElem?_set_self hlt] at hj
   simp only [Option.some.injEq] at hj
   subst hj
   obtain ⟨x, g1, g2⟩ := o0.obj i _ hi
   exact ⟨x, g1, hob x g1 g2⟩
  ·rw [List.getElem?_set_ne hij] at hj
   exact o0.obj j ob hj
 ·by_cases hij : i = j
  ·subst hij; rw [List.getElem?_set_self hlt] at hj; simp at hj
  ·rw [List.getElem?_set_ne hij] at hj; exact o0.hole j hj
 ·have key : ∀ (j : Nat) (q : Ob), (s.L.set i (some o'))[j]? = some (some q) → q.live → ∃ q', s.L[j]? = some (some q') ∧ q'.live := fun j q hj hq => by
   by_cases hij : i = j
   ·subst hij
    rw [List.getElem?_set_self hlt] at hj
    simp only [Option.some.injEq] at hj
    subst hj
    exact ⟨_, hi, hl hq⟩
   ·rw [List.getElem?_set_ne hij] at hj; exact ⟨q, hj, hq⟩
  obtain ⟨p1, r1, s1⟩ := key j o1 hj hl1
  obtain ⟨p2, r2, s2⟩ := key k o2 hk hl2
  exact o0.inj j k p1 p2 b r1 r2 s1 s2 hb1 hb2
theorem r_openM {P : Program} {nb : Nat} {c : Code} {Q : Exit → ASt → Prop} {s : ASt} (i : Nat) (kk : Option IntKind) (ek : EK) (hi : nth s.L i = some (some (.mp kk ek)))
  (h : ∀ es cl, MapIs kk ek es cl → awp P nb c Q { s with L := setL s.L i (some (.mpx kk es cl)) }) : awp P nb c Q s := by
 refine ⟨fun ρ hρ B Z lb a w hs => ?_⟩
 rw [nth_eq] at hi
 obtain ⟨x, g1, g2⟩ := hs.own.obj i _ hi
 cases x with
 | none => exact g2.elim
 | some b =>
  obtain ⟨z1, z2, es, cl, hh, hm⟩ := g2
  refine (h es cl hm).run ρ hρ B Z lb a w (hs.to (hs.toSt.swap hi (fun _ => trivial) fun x hx hob => ?_) rfl (Nat.le_refl _))
  rw [g1] at hx
  simp only [Option.some.injEq] at hx
  subst hx
  exact ⟨z1, z2, hh⟩
theorem r_shutM {P : Program} {nb : Nat} {c : Code} {Q : Exit → ASt → Prop} {s : ASt} (i : Nat) (kk : Option IntKind) (es : Array MapEntry) (cl : Nat) (ek : EK) (hm : MapIs kk ek es cl) (hi : nth s.L i = some (some (.mpx kk es cl)))
  (h : awp P nb c Q { s with L := setL s.L i (some (.mp kk ek)) }) : awp P nb c Q s := by
 rw [nth_eq] at hi
 refine awp_st (fun Z lb a w hs => hs.swap hi (fun _ => trivial) fun x hx hob => ?_) h
 cases x with
 | none => exact hob
 | some b => exact ⟨hob.1, hob.2.1, es, cl, hob.2.2, hm⟩
theorem run_next_it {P : Program} (w : World) (ty : TypeId) (b bm since last : Nat) (seen : Array Nat) (es : Array MapEntry) (cl : Nat) (hb : w.heap[b]? = some (.mapIter (some bm) since seen last)) (hm : w.heap[bm]? = some (.map es cl))
  (hold : ∀ x ∈ es.toList, x.born < since) (hsc : since ≤ last) :
  ((leftOf es seen).size = 0 ∧ (Instr.next (.pointer (some ⟨b, 0, none⟩)) false ty).run P w = .ok (.tuple #[.bool false]) w) ∨
  ∃ e ∈ (leftOf es seen).toList, ∃ d : Nat, w.drawn ≤ d ∧ (Instr.next (.pointer (some ⟨b, 0, none⟩)) false ty).run P w = .ok (.tuple #[.bool true, e.key, e.val]) { w with drawn := d, heap := w.heap.setIfInBounds b (.mapIter (some bm) since (seen.push e.born) cl) } := by
 simp only [Instr.next, getObj, Sem.run_bind, Sem.run, hb, hm, Result.andThen, next_test_false seen es since last hold hsc, Bool.false_eq_true, if_false]
 unfold leftOf
 have hmem : ∀ x ∈ (Array.filter (fun e => !seen.contains e.born) es).toList, x.born < since := fun x hx => hold x (by simp at hx ⊢; exact hx.1)
 generalize Array.filter (fun e => !seen.contains e.born) es = L at hmem ⊢
 have e1 : L.filter (fun x => decide (x.born < since)) = L := Array.filter_eq_self.2 (fun x hx => by simpa using hmem x (by simpa using hx))
 have e2 : L.filter (fun x => decide (x.born ≥ since)) = #[] := by
  rw [Array.filter_eq_empty_iff]
  intro x hx
  have := hmem x (by simpa using hx)
  simp
  omega
 simp only [e1, e2, Array.append_empty]
 by_cases h0 : L.size = 0
 ·left
  have : L = #[] := Array.eq_empty_of_size_eq_zero h0
  subst this
  refine ⟨rfl, ?_⟩
  simp [choose, Sem.run, Question.forced]
 ·right
  have hne : L.isEmpty = false := by simp [Array.isEmpty, h0]
  simp only [hne, Bool.false_eq_true, if_false, Array.empty_append, Array.size_map]
  have hch : ∃ (j d : Nat), j < L.size ∧ w.drawn ≤ d ∧ (choose (Question.mapNext L.size)).run P w = .ok j { w with drawn := d } := by
   by_cases hf : L.size ≤ 1
   ·exact ⟨0, w.drawn, by omega, Nat.le_refl _, by simp [choose, Sem.run, Question.forced, hf]⟩
   ·exact ⟨_, w.drawn + 1, Nat.mod_lt _ (by omega), Nat.le_succ _, by
     simp only [choose, Sem.run, Question.forced, decide_eq_true_eq, hf, if_false, Question.cut]
     rfl⟩
  obtain ⟨j, d, hj, hd, hrun⟩ := hch
  refine ⟨L[j], by simp, d, hd, ?_⟩
  have hset : ∀ (o' : Obj), (setObj b o').run P ({ w with drawn := d } : World) = .ok () { w with drawn := d, heap := w.heap.setIfInBounds b o' } := fun o' => by
   simp only [setObj, Sem.run, hb]
  simp only [hrun, Array.getElem?_map, Array.getElem?_eq_getElem hj, Option.map_some, Sem.run_bind, hset, Result.andThen]
  rfl
theorem Own.putIt {Z : Nat → Prop} {lb : Lb} {L : List (Option Ob)} {w : World} (h : Own Z lb L w) {k b d : Nat} {o o' : Ob} (hk : L[k]? = some (some o)) (hl : o.live) (hb : lb[k]? = some (some (some b)))
  {m1 m2 : Option Nat} {s1 s2 l1 l2 : Nat} {q1 q2 : Array Nat} (hh : w.heap[b]? = some (.mapIter m1 s1 q1 l1)) (hd : w.drawn ≤ d)
  (hob : Stp Z lb w Z lb { w with drawn := d, heap := w.heap.setIfInBounds b (.mapIter m2 s2 q2 l2) } → ObAt Z lb { w with drawn := d, heap := w.heap.setIfInBounds b (.mapIter m2 s2 q2 l2) } o' (some b)) :
  Stp Z lb w Z lb { w with drawn := d, heap := w.heap.setIfInBounds b (.mapIter m2 s2 q2 l2) } ∧ Own Z lb (L.set k (some o')) { w with drawn := d, heap := w.heap.setIfInBounds b (.mapIter m2 s2 q2 l2) } := by
 obtain ⟨x, h1, h2⟩ := h.obj k o hk
 rw [hb] at h1
 simp only [Option.some.injEq] at h1
 subst h1
 obtain ⟨g1, g2⟩ := h2.block hl
 have hs := MapKept.heap_set (o' := .mapIter m2 s2 q2 l2) hh
 have st : Stp Z lb w Z lb { w with drawn := d, heap := w.heap.setIfInBounds b (.mapIter m2 s2 q2 l2) } := {
  os := rfl, tape := rfl, output := ⟨rfl, fun _ => hd⟩
  size := by simp
  keep := fun x hx => hs.2 x fun hh => g1 (hh ▸ hx)
  z1 := fun _ h => h
  z2 := fun _ h _ => .inl h
  bs := fun x _ => by
   by_cases hxb : x = b
   ·subst hxb
    simp only [bsize, hh]
    rw [hs.1]
   ·simp only [bsize]
    rw [hs.2 x hxb]
  hp := fun x _ hn => hs.2 x fun hh => by subst hh; exact hn k hb
  le := fun _ _ h => h
  fresh := fun i b hi => .inl ⟨i, hi⟩
  len := rfl }
 refine ⟨st, h.upd st ?_ hb (hob st) ?_ (fun i _ hi => h.hole i hi) fun x hx => by have := h.zlt.lt x hx; simpa using this⟩
 ·rcases Nat.lt_or_ge k L.length with h' | h'
  ·exact h'
  ·simp [List.getElem?_eq_none h'] at hk
 ·intro i o1 b1 hik hi hl1 hb1
  have hne : b1 ≠ b := fun hh => by subst hh; exact hik (h.inj i k o1 o b1 hi hk hl1 hl hb1 hb)
  obtain ⟨x, h3, h4⟩ := h.obj i o1 hi
  rw [hb1] at h3
  simp only [Option.some.injEq] at h3
  subst h3
  exact ⟨hs.2 b1 hne, (h4.block hl1).1, fun hh => hne (by simpa using hh.symm)⟩
theorem r_next {E : Env} {nb : Nat} {Q : Exit → ASt → Prop} {s : ASt} {id : Nat} {o1 : Oper} {rest : List Oper} {it t k m since last cl : Nat} {seen : Array Nat} {kk : Option IntKind} {es : Array MapEntry}
  (ho : o1.op = .next (.tmp it) false) (hd : o1.dst = some t) (hg : o1.guard = none) (ht : t < s.n) (hit : tget s.t it = some (.loc k 0)) (hk : nth s.L k = some (some (.it (.mref m) since seen last))) (hm : nth s.L m = some (some (.mpx kk es cl)))
  (hold : ∀ x, x ∈ es.toList → x.born < since) (hsc : since ≤ last) (hone : ∀ e, e ∈ es.toList → oneB e.key = true ∧ oneB e.val = true)
  (h0 : (leftOf es seen).size = 0 → VX E (o1 :: rest) rest (lenL s.L) { s with t := (t, some (.p (.tup [.v (.bool false)]))) :: s.t } [] (regK false (o1 :: rest) fun s => Q .normal s))
  (h1 : ∀ e, e ∈ (leftOf es seen).toList → VX E (o1 :: rest) rest (lenL s.L) { n := s.n, t := (t, some (.p (.tup [.v (.bool true), .v e.key, .v e.val]))) :: s.t, L := setL s.L k (some (.it (.mref m) since (seen.push e.born) cl)) } [] (regK false (o1 :: rest) fun s => Q .normal s)) :
  awp E.P nb (.region id (o1 :: rest).toArray false) Q s := by
 refine ⟨fun ρ hρ B Z lb a w hs => wpIn_region_list ?_⟩
 obtain ⟨hr1, hr2⟩ : (ρ = none ∨ rfO o1 = true) ∧ (ρ = none ∨ rest.all rfO = true) := rf_2 (hρ.imp (fun h => h) fun h => by simpa [rf] using h)
 rw [nth_eq] at hk hm
 obtain ⟨u, hu1, hu2⟩ := hs.tm it _ hit
 simp only [ARep] at hu2
 obtain ⟨b, hb, rfl⟩ := hu2
 have hev : a.eval (.tmp it) = .pointer (some ⟨b, 0, none⟩) := by simp [Act.eval, Array.getD_eq_getD_getElem?, hu1]
 obtain ⟨x0, k1, k2⟩ := hs.own.obj k _ hk
 rw [hb] at k1
 simp only [Option.some.injEq] at k1
 subst k1
 obtain ⟨z1, z2, mo, hq2, hh⟩ := k2
 have hq3 := hq2
 simp only [ARep] at hq2
 obtain ⟨bm, hbm, hmo⟩ := hq2
 simp only [Value.map.injEq] at hmo
 subst hmo
 obtain ⟨x1, k3, k4⟩ := hs.own.obj m _ hm
 rw [hbm] at k3
 simp only [Option.some.injEq] at k3
 subst k3
 obtain ⟨_, _, hmh⟩ := k4
 have hdst : okDst s.n o1.dst = true := by rw [hd]; simpa [okDst, Nat.blt_eq] using ht
 have htput : ∀ x, tput s.t o1.dst x = (t, x) :: s.t := fun x => by rw [hd]; rfl
 rw [List.toList_toArray]
 unfold wpListIn
 rw [if_pos (by simp [Region.wanted, hg])]
 refine wp_in hr1 ?_
 unfold Oper.wp
 rcases run_next_it (P := E.P) w o1.type b bm since last seen es cl hh hmh hold hsc with ⟨hz, hrun⟩ | ⟨e, he, d, hdr, hrun⟩
 ·have hexec : (execOp a.eval o1).run E.P w = .ok (.value (.tuple #[.bool false])) w := by
   simp only [execOp, ho, hev, Sem.run_bind, hrun, Result.andThen_ok, Sem.run_pure]
  rw [hexec, Oper.upon_value]
  obtain ⟨fs, s', htr, hK⟩ := vexec_trace E (o1 :: rest) rest _ _ _ _ (h0 hz).run
  have hs2 : St Z lb { s with t := (t, some (.p (.tup [.v (.bool false)]))) :: s.t } (a.put o1.dst (.tuple #[.bool false])) w := by
   have := hs.put (Stp.refl _ _ _) hs.own hdst (x := some (.p (.tup [.v (.bool false)]))) (u := .tuple #[.bool false]) (fun y hy => by cases hy; simp only [ARep, Rep, Reps]; exact ⟨_, ⟨_, _, rfl, ⟨rfl, rfl⟩, rfl⟩, rfl⟩)
   rw [htput] at this
   exact this
  refine seq_sound (A := (o1 :: rest).toArray) (ops := o1 :: rest) (by simp) hr2 htr hs2 fun Z' lb' a' w' st hs' hdf => ?_
  exact ⟨Z', lb', s', st.ext nb, hs.to hs' (hdf.trans put_df) st.size, hK⟩
 ·have hem : e ∈ es.toList := by
   have := he
   simp only [leftOf, Array.toList_filter, List.mem_filter] at this
   exact this.1
  obtain ⟨g1, g2⟩ := hone e hem
  have hexec : (execOp a.eval o1).run E.P w = .ok (.value (.tuple #[.bool true, e.key, e.val])) { w with drawn := d, heap := w.heap.setIfInBounds b (.mapIter (some bm) since (seen.push e.born) cl) } := by
   simp only [execOp, ho, hev, Sem.run_bind, hrun, Result.andThen_ok, Sem.run_pure]
  rw [hexec, Oper.upon_value]
  obtain ⟨fs, s', htr, hK⟩ := vexec_trace E (o1 :: rest) rest _ _ _ _ (h1 e he).run
  obtain ⟨st1, own1⟩ := hs.own.putIt (o' := .it (.mref m) since (seen.push e.born) cl) hk trivial hb (m2 := some bm) (s2 := since) (q2 := seen.push e.born) (l2 := cl) hh hdr (fun st => ⟨z1, by simpa using z2, some bm, st.arep hq3, (MapKept.heap_set hh).1⟩)
  have hs2 : St Z lb { n := s.n, t := (t, some (.p (.tup [.v (.bool true), .v e.key, .v e.val]))) :: s.t, L := setL s.L k (some (.it (.mref m) since (seen.push e.born) cl)) } (a.put o1.dst (.tuple #[.bool true, e.key, e.val])) { w with drawn := d, heap := w.heap.setIfInBounds b (.mapIter (some bm) since (seen.push e.born) cl) } := by
   have := hs.put st1 own1 hdst (x := some (.p (.tup [.v (.bool true), .v e.key, .v e.val]))) (u := .tuple #[.bool true, e.key, e.val]) (fun y hy => by cases hy; simp only [ARep, Rep, Reps]; exact ⟨_, ⟨_, _, rfl, ⟨rfl, rfl⟩, _, _, rfl, ⟨rfl, g1⟩, _, _, rfl, ⟨rfl, g2⟩, rfl⟩, rfl⟩)
   rw [htput, ← setL_eq] at this
   exact this
  refine seq_sound (A := (o1 :: rest).toArray) (ops := o1 :: rest) (by simp) hr2 htr hs2 fun Z' lb' a' w' st hs' hdf => ?_
  exact ⟨Z', lb', s', (st1.trans st).ext nb, hs.to hs' (hdf.trans put_df) (st1.trans st).size, hK⟩
def roundQ (P : Program) (nb : Nat) (c : Code) (Q : Exit → ASt → Prop) : Nat → ASt → Prop
 | 0, _ => False
 | n + 1, s => awp P nb c (fun e s => match e with | .normal => roundQ P nb c Q n s | e => Q e s) s
theorem yF {P : Program} {nb : Nat} {c : Code} {Q : Exit → ASt → Prop} {n : Nat} {s : ASt} (h : awp P nb c (fun e s => match e with | .normal => roundQ P nb c Q n s | e => Q e s) s) : roundQ P nb c Q (n + 1) s := h
theorem r_rounds {P : Program} {nb : Nat} {c : Code} {Q : Exit → ASt → Prop} {s : ASt} (n : Nat) (h : roundQ P nb c Q n s) : awp P nb (.loop c) Q s := by
 refine ⟨fun ρ hρ B Z lb a w hs => ?_⟩
 have key : ∀ n s, roundQ P nb c Q n s → ∀ Z' lb' a' w', Ext nb Z lb w Z' lb' w' → StB B Z' lb' s a' w' → Code.roundsIn (wd ρ) 0 P c (lift nb B Z lb w Q) n a' w' := by
  intro n
  induction n with
  | zero => intro s h; exact h.elim
  | succ n ih =>
   intro s h Z' lb' a' w' he hst
   rw [roundsIn_succ]
   refine wpIn_mono (h.run ρ hρ B Z' lb' a' w' hst) ?_
   rintro e a2 w2 ⟨Z2, lb2, s2, e2, st2, hq⟩
   cases e with
   | normal => exact ih s2 hq Z2 lb2 a2 w2 (he.trans e2) st2
   | _ => exact ⟨Z2, lb2, s2, he.trans e2, st2, hq⟩
 exact wpIn_loop_rounds n (key n s h Z lb a w (Ext.refl _ _ _ _) hs)
end Go.Ab
set_option linter.unusedVariables false
set_option linter.unusedSimpArgs false
namespace Go.Ab
variable [Glob]
def GSound (E : Env) (o : Oper) (V : Vop) : Prop := ∀ ρ ℓ K, V ρ ℓ K → ∀ s : ASt, okDst s.n o.dst = true → (∀ x, x ∈ o.op.operands → ev s.t x = ρ x) → (∀ k : Nat, s.L[k]? = ℓ k) → ∀ Z lb a w, St Z lb s a w →
 ∀ (K' : Act → World → Prop) (Q : Exit → Act → World → Prop), (∀ e, K e → ∀ Z' lb' a' w', Stp Z lb w Z' lb' w' → St Z' lb' (s.app o.dst e) a' w' → a'.defers = a.defers → K' a' w') → o.wp E.P a w K' Q
def ACallsX (P : Program) (f : FuncId) (args : List AV) (L : List Ob) {G : Type} (r : G → AV) (L' : G → List Ob) : Prop := Callable P f ∧ (∀ g, L.length ≤ (L' g).length) ∧ ∀ Z lb w vals, Own Z lb (L.map some) w → LtB lb w → AReps Z lb w args vals →
 Calls P f vals.toArray w fun e w' => ∃ g u Z' lb', e = .returned u ∧ Own Z' lb' ((L' g).map some) w' ∧ ARep Z' lb' w' (r g) u ∧
  w'.os = w.os ∧ w'.tape = w.tape ∧ OutD w w' ∧ w.heap.size ≤ w'.heap.size ∧ Keep Z w w' ∧ (∀ b, Z b → Z' b) ∧ (∀ b, Z' b → b < w.heap.size → Z b ∨ ∃ i : Nat, lb[i]? = some (some (some b))) ∧ BsLe w w' ∧
  (∀ b, b < w.heap.size → (∀ i : Nat, lb[i]? ≠ some (some (some b))) → w'.heap[b]? = w.heap[b]?) ∧ (∀ (i : Nat) b, lb'[i]? = some (some (some b)) → (∃ j : Nat, lb[j]? = some (some (some b))) ∨ (w.heap.size ≤ b ∧ b < w'.heap.size)) ∧
  (∀ (i : Nat) x, i < L.length → lb[i]? = some (some x) → lb'[i]? = some (some x))
theorem ACalls.x {P : Program} {f : FuncId} {args : List AV} {L : List Ob} {r : AV} {L' : List Ob} (h : ACalls P f args L r L') : ACallsX P f args L (fun _ : Unit => r) (fun _ => L') :=
 ⟨h.1, fun _ => h.2.1, fun Z lb w vals ho hlt hr => (h.2.2 Z lb w vals ho hlt hr).mono fun e w' ⟨u, Z', lb', h⟩ => ⟨(), u, Z', lb', h⟩⟩
theorem ACallsX.to {P : Program} {f : FuncId} {args : List AV} {L : List Ob} {G H : Type} {r : G → AV} {L' : G → List Ob} {r2 : H → AV} {L2 : H → List Ob} (h : ACallsX P f args L r L') (hl : ∀ g, L.length ≤ (L2 g).length) (k : ∀ g, ∃ q, r2 q = r g ∧ L2 q = L' g) : ACallsX P f args L r2 L2 := by
 refine ⟨h.1, hl, fun Z lb w vals ho hlt hr => (h.2.2 Z lb w vals ho hlt hr).mono ?_⟩
 rintro e w' ⟨g, u, Z', lb', h1, h2, h3, h4⟩
 obtain ⟨q, e1, e2⟩ := k g
 exact ⟨q, u, Z', lb', h1, by rw [e2]; exact h2, by rw [e1]; exact h3, h4⟩
def callX (E : Env) (g : FuncId) (cas : List AV) (Lc : List Ob) (K : AV → List Ob → Prop) (_ : Tag K) : Prop := ∃ (G : Type) (r : G → AV) (L' : G → List Ob), ACallsX E.P g cas Lc r L' ∧ ∀ q, K (r q) (L' q)
theorem zK {E : Env} {g : FuncId} {cas : List AV} {Lc : List Ob} {K : AV → List Ob → Prop} {t : Tag K} {G : Type} {r : G → AV} {L' : G → List Ob} (h : ACallsX E.P g cas Lc r L') (hK : ∀ q, K (r q) (L' q)) : callX E g cas Lc K t := ⟨G, r, L', h, hK⟩
@[congr] theorem callX_congr {E : Env} {g : FuncId} {cas cas' : List AV} {Lc Lc' : List Ob} {K : AV → List Ob → Prop} {t : Tag K} (h : cas = cas') (h2 : Lc = Lc') : callX E g cas Lc K t = callX E g cas' Lc' K t := by rw [h, h2]
def lendX (E : Env) (rank : Nat) (g : FuncId) (ℓ : Nat → Option (Option Ob)) (xa : List AV) (K : Eff → Prop) : Prop :=
 forceX (own1 ℓ (refAs xa)) fun l1 => dfsSK ℓ l1 [] (fun σ => forceA (renAs (pos0 σ) xa) fun cas => forceB (lentObs ℓ (pos0 σ) σ) fun Lc =>
  (renAs (atF σ rank) cas = xa ∧ inBs σ.length cas = true ∧ lentOk ℓ (atF σ rank) σ.length σ Lc ∧ freshN σ = true) ∧
   callX E g cas Lc (fun r L' => afterA ℓ rank σ σ L' [] fun wr => K ⟨some (renA (atF σ rank) r), [], wr⟩) ⟨⟩) ⟨⟩
def gCall (E : Env) (rank : Nat) (f : Operand) (args : List Operand) : Vop := fun ρ ℓ K => withV (ρ f) fun
 | .p (.fn g caps) => withC (gatherA ρ args) fun xa => forceA (appA xa (mapP caps)) fun l => lendX E rank g ℓ l K
 | _ => False
theorem gsCall (E : Env) (o : Oper) (rank : Nat) (f : Operand) (args : Array Operand) (ts : Array TypeId) (ho : o.op = .call { callee := .value f, args := args, argTypes := ts }) : GSound E o (gCall E rank f args.toList) := by
 intro ρ ℓ K h0 s hd hq ht Z lb a w hs K' Q hK'
 obtain ⟨y, hy, h⟩ := withV_some h0
 clear h0
 have hfm : f ∈ o.op.operands := by simp [ho, Op.operands, Call.operands]
 have ham : ∀ x, x ∈ args.toList → ev s.t x = ρ x := fun x hx => hq x (by simp only [ho, Op.operands, Call.operands]; simp; exact .inr (Array.mem_toList_iff.1 hx))
 have hrun : ∀ {a : Act} {w : World} {g : FuncId} {vs : List Value}, Callable E.P g → a.eval f = .func (.func g) #[] vs.toArray → (execOp a.eval o).run E.P w = .ok (.enter g (args.toList.map a.eval ++ vs).toArray) w := by
  intro a w g vs hc g2
  have hargs : args.map a.eval = (args.toList.map a.eval).toArray := by apply Array.ext'; simp
  simp [execOp, ho, resolve, Deferred.ofValue, g2, invoke, run_callFunc hc, hargs]
 split at h
 ·rename_i g caps
  have hf := ev_rep hs (find_ev hq hfm hy)
  simp only [ARep, Rep] at hf
  obtain ⟨vs, g1, g2⟩ := hf
  obtain ⟨xa, has, h⟩ := withC_some h
  rw [forceA_eq] at h
  unfold lendX at h
  rw [forceX_eq, dfsSK_eq, forceA_eq, forceB_eq] at h
  obtain ⟨⟨hren, hin, hlent, hfr⟩, G, r, L', hcall, hpost⟩ := h
  revert hren hin hlent hcall hpost
  generalize dfsS ℓ (own1 ℓ (refAs (appA xa (mapP caps)))) [] = σ at *
  generalize renAs (pos0 σ) (appA xa (mapP caps)) = cargs
  generalize lentObs ℓ (pos0 σ) σ = Lc
  intro hren hin hlent hcall hpost
  have ga := (gatherA_rep hs ham has).append (areps_p.2 g1)
  rw [← mapP_eq, ← appA_eq, ← hren] at ga
  have hnd := freshN_nodup hfr
  have hl' := lentOk_congr (ℓ' := fun k => s.L[k]?) (fun j _ => ht j) hlent
  have hlend := hs.own.lend (rank := rank) hl' hnd
  have hargs := areps_ren (f := atF σ rank) (n := σ.length) (lb' := lbOf lb σ) (fun i x hi hx => by
   have hj : σ[i]? = some σ[i] := by simp [hi]
   rw [atF_lt hj] at hx
   exact lbOf_get σ hj hx) _ _ hin ga
  unfold Oper.wp
  rw [hrun hcall.1 g2, Oper.upon_enter]
  refine (hcall.2.2 Z _ w _ hlend (ltB_of hs.df.1) hargs).mono ?_
  rintro e w' ⟨q, u, Z', lbc', rfl, c1, c2, c3, c4, c5, c6, c7, c8, c9, c10, c11, c12, c13⟩
  obtain ⟨M, nw, hMn, hM, hnw, hK⟩ := afterA_ok (hpost q)
  rw [hMn] at c1
  have hnw' : ∀ i, i < nw.length → s.L[rank + i]? = some none := fun i hi => (ht (rank + i)).trans (isHole_eq (holesOk_get hnw hi))
  obtain ⟨lb', st, own, hun⟩ := hs.own.back hl' hnd hM hnw' c1 c6 c7 c8 c9 c10 c11 c12 c13 c3 c4 c5
  refine hK' ⟨some (renA (atF σ rank) (r q)), [], zipW (atF σ rank) σ M ++ nwW (atF σ rank) rank nw⟩ (by simpa using hK) Z' lb' _ w' st (hs.put st own hd fun q hq' => ?_) put_df
  cases hq'
  exact arep_unren hun _ u c2
 ·exact h.elim
def gInvoke (E : Env) (rank : Nat) (recv : Operand) (name : String) (args : List Operand) : Vop := fun ρ ℓ K => withV (ρ recv) fun
 | .ifc t x => onF (mfind E.meths t name) fun g => withC (gatherA ρ args) fun xa => forceA (x :: xa) fun l => lendX E rank g ℓ l K
 | _ => False
theorem gsInvoke (E : Env) (o : Oper) (rank : Nat) (f : Operand) (name : String) (args : Array Operand) (ts : Array TypeId) (ho : o.op = .call { callee := .invoke f name, args := args, argTypes := ts }) : GSound E o (gInvoke E rank f name args.toList) := by
 intro ρ ℓ K h0 s hd hq ht Z lb a w hs K' Q hK'
 obtain ⟨y, hy, h⟩ := withV_some h0
 clear h0
 have hfm : f ∈ o.op.operands := by simp [ho, Op.operands, Call.operands]
 have ham : ∀ x, x ∈ args.toList → ev s.t x = ρ x := fun x hx => hq x (by simp only [ho, Op.operands, Call.operands]; simp; exact .inr (Array.mem_toList_iff.1 hx))
 split at h
 ·rename_i t x0
  obtain ⟨g, hg, h⟩ := onF_some h
  have hm := mfind_ok hg
  have hrun : ∀ {a : Act} {w : World} {v : Value}, Callable E.P g → a.eval f = .iface t v → (execOp a.eval o).run E.P w = .ok (.enter g (v :: args.toList.map a.eval).toArray) w := by
   intro a w v hc g2
   obtain ⟨l⟩ := args
   simp [execOp, ho, resolve, g2, invoke, run_callMethod hm, run_callFunc hc]
   exact List.take_of_length_le (by simp)
  have hf := ev_rep hs (find_ev hq hfm hy)
  simp only [ARep] at hf
  obtain ⟨v0, g1, g2⟩ := hf
  obtain ⟨xa, has, h⟩ := withC_some h
  rw [forceA_eq] at h
  unfold lendX at h
  rw [forceX_eq, dfsSK_eq, forceA_eq, forceB_eq] at h
  obtain ⟨⟨hren, hin, hlent, hfr⟩, G, r, L', hcall, hpost⟩ := h
  revert hren hin hlent hcall hpost
  generalize dfsS ℓ (own1 ℓ (refAs (x0 :: xa))) [] = σ at *
  generalize renAs (pos0 σ) (x0 :: xa) = cargs
  generalize lentObs ℓ (pos0 σ) σ = Lc
  intro hren hin hlent hcall hpost
  have ga : AReps Z lb w (x0 :: xa) (v0 :: args.toList.map a.eval) := by
   simp only [AReps]; exact ⟨v0, _, rfl, g1, gatherA_rep hs ham has⟩
  rw [← hren] at ga
  have hnd := freshN_nodup hfr
  have hl' := lentOk_congr (ℓ' := fun k => s.L[k]?) (fun j _ => ht j) hlent
  have hlend := hs.own.lend (rank := rank) hl' hnd
  have hargs := areps_ren (f := atF σ rank) (n := σ.length) (lb' := lbOf lb σ) (fun i x hi hx => by
   have hj : σ[i]? = some σ[i] := by simp [hi]
   rw [atF_lt hj] at hx
   exact lbOf_get σ hj hx) _ _ hin ga
  unfold Oper.wp
  rw [hrun hcall.1 g2, Oper.upon_enter]
  refine (hcall.2.2 Z _ w _ hlend (ltB_of hs.df.1) hargs).mono ?_
  rintro e w' ⟨q, u, Z', lbc', rfl, c1, c2, c3, c4, c5, c6, c7, c8, c9, c10, c11, c12, c13⟩
  obtain ⟨M, nw, hMn, hM, hnw, hK⟩ := afterA_ok (hpost q)
  rw [hMn] at c1
  have hnw' : ∀ i, i < nw.length → s.L[rank + i]? = some none := fun i hi => (ht (rank + i)).trans (isHole_eq (holesOk_get hnw hi))
  obtain ⟨lb', st, own, hun⟩ := hs.own.back hl' hnd hM hnw' c1 c6 c7 c8 c9 c10 c11 c12 c13 c3 c4 c5
  refine hK' ⟨some (renA (atF σ rank) (r q)), [], zipW (atF σ rank) σ M ++ nwW (atF σ rank) rank nw⟩ (by simpa using hK) Z' lb' _ w' st (hs.put st own hd fun q hq' => ?_) put_df
  cases hq'
  exact arep_unren hun _ u c2
 ·exact h.elim
def gAppend (E : Env) (rank : Nat) (T T2 : TypeId) (s x : Operand) : Vop := fun ρ ℓ K => onB (isHole (ℓ rank)) <| isSliceTy E T fun _ esz eb => isSliceTy E T2 fun _ _ _ => onB (Nat.blt 0 esz) <|
 withV (ρ s) fun y => withV (ρ x) fun z => match elemsOf esz ℓ z with
  | some (xs, ks) => (match z with | .sl _ _ _ n => xs.length = n | _ => True) ∧ (match y with
   | .sl k sz st n => withO (ℓ k) fun
    | .arr sz' es => (Nat.beq sz esz = true ∧ Nat.beq sz' esz = true ∧ es.length = st + n ∧ (st + n + xs.length ≤ big ∧ (st + n + xs.length) * eb ≤ big)) ∧
      K ⟨some (.sl rank esz st (n + xs.length)), ks, [(k, some .dead), (rank, some (.arr esz (es ++ xs)))]⟩ ∧ K ⟨some (.sl rank esz 0 (n + xs.length)), ks, [(k, some .dead), (rank, some (.arr esz (es.drop st ++ xs)))]⟩
    | _ => False
   | _ => False)
  | none => False
theorem gsAppend (E : Env) (o : Oper) (rank : Nat) (T T2 : TypeId) (sx x : Operand) (ho : o.op = .call { callee := .builtin .append, args := #[sx, x], argTypes := #[T, T2] }) : GSound E o (gAppend E rank T T2 sx x) := by
 intro ρ ℓ K h0 s hd hq ht Z lb a w hs K' Q hK'
 obtain ⟨hh, h1⟩ := onB_some h0
 obtain ⟨i, d, inf, z, h2, F⟩ := withTy_some h1
 clear h0 h1
 split at h2
 ·rename_i e esz eb ez hk
  obtain ⟨hez, h2'⟩ := onB_some h2
  have hez := Nat.eq_of_beq_eq_true hez
  obtain ⟨i2, d2, inf2, z2, h3, F2⟩ := withTy_some h2'
  clear h2 h2'
  split at h3
  ·rename_i e2 esz2 eb2 ez2 hk2
   obtain ⟨_, h3'⟩ := onB_some h3
   obtain ⟨hp, h4⟩ := onB_some h3'
   obtain ⟨y, hy, h5⟩ := withV_some h4
   obtain ⟨zx, hz, h⟩ := withV_some h5
   clear h3 h3' h4 h5
   have hp : 0 < esz := Nat.le_of_ble_eq_true hp
   have hsm : sx ∈ o.op.operands := by simp [ho, Op.operands, Call.operands]
   have hxm : x ∈ o.op.operands := by simp [ho, Op.operands, Call.operands]
   obtain ⟨rfl, j, zz, a1, a2, a3, a4, a5⟩ := F.slice hk
   obtain ⟨rfl, j2, zz2, b1, b2, b3, b4, b5⟩ := F2.slice hk2
   have hexec : ∀ {w' : World} {u : Value}, (Builtin.append_ #[T, T2] o.type #[a.eval sx, a.eval x]).run E.P w = .ok u w' → (execOp a.eval o).run E.P w = .ok (.value u) w' := by
    intro w' u h
    simp [execOp, ho, resolve, invoke, builtin, h]
   split at h
   ·rename_i xs ks hel
    obtain ⟨hzl, h⟩ := h
    obtain ⟨vs, hr0⟩ := elemsOf_rep hs.own hp (ks := ks) (fun q _ => ht q) hel (ev_rep hs (find_ev hq hxm hz)) fun k sz' st n hzz => by
     subst hzz
     exact hzl
    have r2 := hr0.srcR (P := E.P) F2.und
    split at h
    ·rename_i k sz st n
     obtain ⟨ob, hob, h⟩ := withO_some h
     split at h
     ·rename_i sz' es
      obtain ⟨⟨e1, e2, hln, hb1, hb2⟩, hin, hout⟩ := h
      have e1 := Nat.eq_of_beq_eq_true e1
      have e2 := Nat.eq_of_beq_eq_true e2
      subst e1
      subst e2
      have hr : s.L[rank]? = some none := (ht rank).trans (isHole_eq hh)
      have hk1 : s.L[k]? = some (some (.arr sz' es)) := (ht k).trans hob
      have hyr := ev_rep hs (find_ev hq hsm hy)
      have l2 := r2.rep.length
      have hrk : rank ≠ k := fun hh' => by rw [hh', hk1] at hr; simp at hr
      have hr' : (s.L.set k (some .dead))[rank]? = some none := by rw [List.getElem?_set_ne (fun hh' => hrk hh'.symm)]; exact hr
      have hel2 : elemsOf sz' (fun q : Nat => s.L[q]?) (.sl k sz' st n) = some (es.drop st, [k]) := by
       have : (es.drop st).take n = es.drop st := List.take_of_length_le (by simp; omega)
       simp only [elemsOf, hk1, Nat.beq_refl]
       cases st with
       | zero => simp at this ⊢; omega
       | succ st => simp only [this]
      obtain ⟨us, r1⟩ := elemsOf_rep hs.own hp (ks := [k]) (fun q _ => rfl) hel2 hyr (fun k' sz' st' n' hh' => by simp only [AV.sl.injEq] at hh'; obtain ⟨_, _, rfl, rfl⟩ := hh'; simp; omega)
      have l1 := r1.rep.length
      have fin : ∀ (s2 : Nat) (es2 : List PV) (u : Value) (w' : World) (lb' : Lb), K ⟨some (.sl rank sz' s2 (n + xs.length)), ks, [(k, some .dead), (rank, some (.arr sz' es2))]⟩ → (execOp a.eval o).run E.P w = .ok (.value u) w' → Stp Z lb w Z lb' w' →
        Own Z lb' ((s.L.set k (some .dead)).set rank (some (.arr sz' es2))) w' → ARep Z lb' w' (.sl rank sz' s2 (n + xs.length)) u → o.wp E.P a w K' Q := by
       intro s2 es2 u w' lb' hKK g1 g2 g3 g4
       unfold Oper.wp
       rw [g1, Oper.upon_value]
       exact hK' _ hKK Z lb' _ w' g2 (hs.put g2 (by simpa [setAll, setL_eq] using g3) hd fun q hq' => by cases hq'; exact g4) put_df
      have grow : ∀ {base : Option Addr} {cap : Nat}, a.eval sx = .slice base n cap → cap < n + vs.length → o.wp E.P a w K' Q := by
       intro base cap hu hcap
       obtain ⟨hn, hfirst⟩ := r1.first (P := E.P) hu
       have hsrc := r2.src
       rw [← a3] at hsrc
       have hdl : (es.drop st).length = n := by simp; omega
       have hgrow := run_append_grow_src (P := E.P) w T T2 o.type e j zz F.und a1 a2 base n cap (flat us) (by rw [a3]; exact hfirst cap) (a.eval x) vs.length (flat vs) hsrc hcap
        (by unfold big at hb1; omega) (growslice_fits hcap (by rw [a4]; have : (n + vs.length) * eb ≤ (st + n + xs.length) * eb := Nat.mul_le_mul_right _ (by omega); unfold big at hb2; omega))
       rw [← hu] at hgrow
       have st0 : Stp Z lb w Z lb w.drew := stp_heap rfl rfl rfl (od_drew _)
       have own0 : Own Z lb (s.L.set k (some .dead)) w.drew := (hs.own.kill hk1).heap rfl rfl rfl (od_drew _)
       have fit : ∀ q, q ∈ us ++ vs → Fit sz' q := fun q hq => by
        rcases List.mem_append.1 hq with h1 | h1
        ·exact r1.len q h1
        ·exact r2.len q h1
       have hfl : (flat (us ++ vs)).length = (us ++ vs).length * sz' := flat_length fun q hq => (fit q hq).1
       obtain ⟨lb', stp, own', hb'⟩ := own0.new hr' (ob := .cells ((flat us ++ flat vs).toArray ++ Builtin.zeroCells zz.cells (grownCap w (n + vs.length) cap e - (n + vs.length))) e) (o' := .arr sz' (es.drop st ++ xs)) (fun lb' stp hz =>
        obAt_arr hz stp hp ((st0.reps r1.rep).append (st0.reps r2.rep)) fit (fun k u hk q c hc => by
         have := flat_at (fun q hq => (fit q hq).1) k u hk q c hc
         rw [flat_append] at this
         have hlt : k * sz' + q < (flat us ++ flat vs).length := by
          rcases Nat.lt_or_ge (k * sz' + q) (flat us ++ flat vs).length with h' | h'
          ·exact h'
          ·simp [List.getElem?_eq_none h'] at this
         rw [Array.getElem?_append_left (by simpa using hlt)]
         simpa using this) (by simp; omega) (by rw [← hfl, flat_append]; simp))
       refine fin 0 _ _ _ lb' hout (hexec hgrow) (st0.trans stp) own' ?_
       simp only [ARep]
       refine .inr ⟨_, grownCap w (n + vs.length) cap e, hb', ?_, ?_, ?_⟩
       ·rw [Nat.zero_mul, ← l2]; rfl
       ·have := grownCap_ge w (n + vs.length) cap e; omega
       ·have hge := grownCap_ge w (n + vs.length) cap e
        have hzs : zz.cells.size = sz' := by rw [← hez, ← a5, vcells]; simp
        rw [bsize_of alloc_heap_new]
        have hzc : (Builtin.zeroCells zz.cells (grownCap w (n + vs.length) cap e - (n + vs.length))).size = (grownCap w (n + vs.length) cap e - (n + vs.length)) * sz' := by simp [Builtin.zeroCells, hzs]
        rw [Array.size_append, hzc, List.size_toArray, ← flat_append, hfl, ← Nat.add_mul, Nat.zero_add, List.length_append]
        exact Nat.mul_le_mul_right _ (by omega)
      have hyr2 := hyr
      simp only [ARep] at hyr
      rcases hyr with ⟨s0, n0, c3, hu⟩ | ⟨b, cap, c1, hu, c3, c4⟩
      ·subst s0
       subst n0
       by_cases hx0 : xs.length = 0
       ·obtain ⟨lb', stp, own, hb'⟩ := (hs.own.kill hk1).newNil hr' hp
        have hxe : xs = [] := List.length_eq_zero_iff.1 hx0
        have hee : es = [] := List.length_eq_zero_iff.1 (by omega)
        have hsrc := r2.src
        have h00 : vs.length = 0 := by omega
        rw [h00, ← a3] at hsrc
        refine fin 0 _ (.slice none 0 0) w lb' hout (hexec ?_) stp (by simpa [hxe, hee] using own) (by simp only [ARep]; exact .inl ⟨trivial, by omega, hb', trivial⟩)
        rw [hu]
        rcases hsrc.kind with ⟨e', hk⟩ | hk <;> simp [Builtin.append_, run_underlying F.und, run_underlying hk, sizeOf, typeInfo, a1, hsrc.len, hsrc.cells]
       ·exact grow hu (by omega)
      ·by_cases hroom : n + vs.length ≤ cap
       ·obtain ⟨vs0, arr, ty, fr, g1, g2, g3, g4, g5, g6, g7, g8⟩ := obj_arr hs.own hk1 c1
        rw [bsize_of g4] at c4
        have hsrc := r2.src
        rw [← a3] at hsrc
        have hfl : (flat vs).length = vs.length * sz' := flat_length fun q hq => (r2.len q hq).1
        have hcap : (st + (n + vs.length)) * sz' ≤ (st + cap) * sz' := Nat.mul_le_mul_right _ (by omega)
        rw [show st + (n + vs.length) = (st + n) + vs.length by omega, Nat.add_mul] at hcap
        have hsn : (st + n) * sz' = st * sz' + n * sz' := Nat.add_mul _ _ _
        have hrun := run_append_room_ab T T2 o.type e j F.und a1 b (st * sz') n cap (a.eval x) vs.length (flat vs) hsrc hroom g4 (by rw [a3, hfl]; omega) g5
        rw [a3, ← hsn] at hrun
        rw [← hu] at hrun
        have h0len := g1.length
        have ht0 : vs0.length = st + n := by omega
        obtain ⟨lb', stp, own, hb'⟩ := hs.own.newPut hr hk1 trivial c1 g4 (c' := arrSplice arr ((st + n) * sz') (flat vs)) (arrSplice_size _ _ _) (o' := .arr sz' (es ++ xs)) (fun lb' stp => by
         obtain ⟨x0, k1, k2⟩ := hs.own.obj k _ hk1
         rw [c1] at k1
         simp only [Option.some.injEq] at k1
         subst k1
         refine ⟨k2.1, by rw [put_size]; exact k2.2.1, vs0 ++ vs, _, ty, fr, (stp.reps g1).append (stp.reps r2.rep), hp, ?_, put_heap g4, by rw [arrSplice_size]; exact g5, ?_, by rw [List.length_append, ht0]; omega, by rw [arrSplice_size, List.length_append, ht0, Nat.add_mul]; omega⟩
         ·intro q hq'
          rcases List.mem_append.1 hq' with h1 | h1
          ·exact g3 q h1
          ·exact r2.len q h1
         ·intro m u hm q c hc
          have hql : q < (vcells u).length := by
           rcases Nat.lt_or_ge q (vcells u).length with h' | h'
           ·exact h'
           ·simp [List.getElem?_eq_none h'] at hc
          rw [arrSplice_get _ _ _ _ (by omega)]
          rcases Nat.lt_or_ge m (st + n) with hmn | hmn
          ·rw [List.getElem?_append_left (by omega)] at hm
           have hus := (g3 u (List.mem_of_getElem? hm)).1
           have : (m + 1) * sz' ≤ (st + n) * sz' := Nat.mul_le_mul_right sz' hmn
           rw [Nat.succ_mul] at this
           rw [if_neg (by omega)]
           exact g6 m u hm q c hc
          ·rw [List.getElem?_append_right (by omega), ht0] at hm
           have hus := (r2.len u (List.mem_of_getElem? hm)).1
           have hml : m - (st + n) < vs.length := by
            rcases Nat.lt_or_ge (m - (st + n)) vs.length with h' | h'
            ·exact h'
            ·simp [List.getElem?_eq_none h'] at hm
           have e1 : m * sz' = (st + n) * sz' + (m - (st + n)) * sz' := by rw [← Nat.add_mul, show st + n + (m - (st + n)) = m by omega]
           have e2 : (m - (st + n) + 1) * sz' ≤ vs.length * sz' := Nat.mul_le_mul_right sz' hml
           rw [Nat.succ_mul] at e2
           rw [if_pos (by omega), show m * sz' + q - (st + n) * sz' = (m - (st + n)) * sz' + q by omega]
           exact flat_at (fun q hq => (r2.len q hq).1) (m - (st + n)) u hm q c hc)
        refine fin st _ _ _ lb' hin (hexec hrun) stp own ?_
        simp only [ARep]
        refine .inr ⟨b, cap, hb', by rw [l2], by omega, ?_⟩
        rw [bsize_of (put_heap g4), arrSplice_size]; exact c4
       ·exact grow hu (by omega)
     ·exact h.elim
    ·exact h.elim
   ·exact h.elim
  ·exact h3.elim
 ·exact h2.elim
def gop (E : Env) (o : Oper) (rank : Nat) : Vop := match o.op with
 | .call c => match c.callee with
  | .value f => gCall E rank f c.args.toList
  | .builtin .append => match c.args.toList, c.argTypes.toList with
   | [s, x], [T, T2] => gAppend E rank T T2 s x
   | _, _ => fun _ _ _ => False
  | .invoke f n => gInvoke E rank f n c.args.toList
  | _ => fun _ _ _ => False
 | _ => fun _ _ _ => False
theorem gsound_false {E : Env} {o : Oper} : GSound E o (fun _ _ _ => False) := fun _ _ _ h => h.elim
theorem gop_sound (E : Env) (o : Oper) (rank : Nat) : GSound E o (gop E o rank) := by
 unfold gop
 split
 ·rename_i c ho
  obtain ⟨callee, args, ts⟩ := c
  simp only
  split
  ·exact gsCall E o rank _ args ts ho
  ·split
   ·rename_i s x T T2 h1 h2
    rw [list2 h1, list2 h2] at ho
    exact gsAppend E o rank T T2 s x ho
   ·exact gsound_false
  ·exact gsInvoke E o rank _ _ args ts ho
  ·exact gsound_false
 ·exact gsound_false
def gstep (E : Env) (o : Oper) (rank : Nat) (s : ASt) (K : Eff → Prop) : Prop := onB (okDst s.n o.dst) (gop E o rank (ev s.t) (nth s.L) K)
def isG (gs : List Nat) (o : Oper) : Bool := match o.guard with
 | some _ => false
 | none => match o.op with
  | .call c => match c.callee with
   | .value (.func g) => elN (g + 1) gs
   | .builtin .append => elN 0 gs
   | .invoke _ _ => elN 999999 gs
   | _ => false
  | _ => false
theorem seq_pre {ρ : Option Nat} {E : Env} {A : Array Oper} {ops : List Oper} (hA : A.toList = ops) {Q : Exit → Act → World → Prop} {r : List Oper} : ∀ {l : List Oper} {es : List (Option Eff)} {s s' : ASt}, (ρ = none ∨ l.all rfO = true) → Trace E ops l es s s' → ∀ {Z : Nat → Prop} {lb : Lb} {a : Act} {w : World}, St Z lb s a w →
  (∀ Z' lb' a' w', Stp Z lb w Z' lb' w' → St Z' lb' s' a' w' → a'.defers = a.defers → wpListIn (wd ρ) 0 E.P A Q r a' w') → wpListIn (wd ρ) 0 E.P A Q (l ++ r) a w := by
 intro l es s s' hρ ht
 induction ht with
 | nil s => intro Z lb a w hs hQ; exact hQ Z lb a w (Stp.refl _ _ _) hs rfl
 | @cons o rest e es s s₁ s₂ s₃ hr hsame t h2 ih =>
  intro Z lb a w hs hQ
  have hs1 := hsame.st hs
  have hw : Region.wanted o (yielded A a.tmps) = e.isSome := by
   rcases hr.guard with ⟨h1, h3⟩ | ⟨d, want, b, h1, h3, h4⟩ | ⟨d, want, h1, h3, h4⟩
   ·rw [h3]; simp [Region.wanted, h1]
   ·rw [wanted_guard hA h1 hs1 h3, h4]
   ·rw [wanted_undef hA h1 hs1 h3, h4]
  rw [List.cons_append]
  unfold wpListIn
  rw [hw]
  cases e with
  | some e =>
   rw [if_pos (show (some e).isSome = true from rfl)]
   refine wp_in (hρ.imp id fun h => by simp only [List.all_cons, Bool.and_eq_true] at h; exact h.1) (hr.run e rfl s₁ hr.dst (fun _ _ => rfl) (fun _ _ => rfl) Z lb a w hs1 _ _ fun Z' lb' a' w' st hs' hdf => ?_)
   exact ih (hρ.imp id fun h => by simp only [List.all_cons, Bool.and_eq_true] at h; exact h.2) (by rw [h2]; exact hs') fun Z'' lb'' a'' w'' st' hs'' hdf' => hQ _ _ _ _ (st.trans st') hs'' (hdf'.trans hdf)
  | none =>
   rw [if_neg (by simp)]
   refine ⟨fun _ _ => trivial, ih (hρ.imp id fun h => by simp only [List.all_cons, Bool.and_eq_true] at h; exact h.2) ?_ fun Z'' lb'' a'' w'' st' hs'' hdf' => hQ _ _ _ _ st' hs'' (hdf'.trans put_df)⟩
   rw [h2]
   exact hs1.put (Stp.refl _ _ _) hs1.own hr.dst fun y hy => by cases hy; simp only [ARep, AReps]; exact ⟨[], rfl, rfl⟩
theorem r_gr {E : Env} {nb : Nat} {Q : Exit → ASt → Prop} {s : ASt} {id : Nat} (gs : List Nat) (p : List Oper) (o : Oper) (q : List Oper) (hg : isG gs o = true)
  (h : VX E (p ++ o :: q) p (lenL s.L) { s with L := addL s.L (holesOf (p ++ o :: q)) } [] fun s1 _ => gstep E o (lenL s.L + holesOf p) s1 fun e => VX E (p ++ o :: q) q (lenL s.L + holesOf p + slotsOf o) (s1.app o.dst e) [] (regK false (p ++ o :: q) fun s => Q .normal s)) :
  awp E.P nb (.region id (p ++ o :: q).toArray false) Q s := by
 refine ⟨fun ρ hρ B Z lb a w hs => ?_⟩
 have hr0 : ρ = none ∨ (p ++ o :: q).all rfO = true := hρ.imp (fun h => h) fun h => by simpa [rf] using h
 have hr1 : ρ = none ∨ p.all rfO = true := hr0.imp (fun h => h) fun h => by simp only [List.all_append, Bool.and_eq_true] at h; exact h.1
 have hr2 : (ρ = none ∨ rfO o = true) ∧ (ρ = none ∨ q.all rfO = true) := rf_2 (hr0.imp (fun h => h) fun h => by simp only [List.all_append, Bool.and_eq_true, List.all_cons] at h; simp [h.2])
 obtain ⟨es, s', ht, hK⟩ := vexec_trace E _ p _ _ _ _ h.run
 have hs1 := hs.toSt.addHoles (holesOf (p ++ o :: q))
 have hext := (hs.own.addHoles (holesOf (p ++ o :: q))).2 nb
 refine wpIn_region_list ?_
 rw [List.toList_toArray]
 refine seq_pre (by simp) hr1 ht hs1 fun Z1 lb1 a1 w1 st1 hs1' hdf1 => ?_
 have hgd : o.guard = none := by
  unfold isG at hg
  split at hg
  ·simp at hg
  ·assumption
 unfold wpListIn
 rw [if_pos (by simp [Region.wanted, hgd])]
 refine wp_in hr2.1 ?_
 obtain ⟨hd, hg2⟩ := onB_some hK
 refine gop_sound E o _ _ _ _ hg2 s' hd (fun _ _ => rfl) (fun k => (nth_eq _ _).symm) Z1 lb1 a1 w1 hs1' _ _ fun e he Z2 lb2 a2 w2 st2 hs2 hdf2 => ?_
 obtain ⟨es2, s2, ht2, hK2⟩ := vexec_trace E _ q _ _ _ _ he.run
 refine seq_sound (ops := p ++ o :: q) (by simp) hr2.2 ht2 hs2 fun Z3 lb3 a3 w3 st3 hs3 hdf3 => ?_
 exact ⟨Z3, lb3, s2, hext.trans (((st1.trans st2).trans st3).ext nb), hs.to hs3 ((hdf3.trans hdf2).trans hdf1) ((st1.trans st2).trans st3).size, hK2⟩
theorem r_gr0 {E : Env} {nb : Nat} {Q : Exit → ASt → Prop} {s : ASt} {id : Nat} (gs : List Nat) {o : Oper} {q : List Oper} (hg : isG gs o = true)
  (h : VX E (o :: q) [] (lenL s.L) { s with L := addL s.L (holesOf (o :: q)) } [] fun s1 _ => gstep E o (lenL s.L + holesOf []) s1 fun e => VX E (o :: q) q (lenL s.L + holesOf [] + slotsOf o) (s1.app o.dst e) [] (regK false (o :: q) fun s => Q .normal s)) :
  awp E.P nb (.region id (o :: q).toArray false) Q s := r_gr gs [] o q hg h
theorem r_gr1 {E : Env} {nb : Nat} {Q : Exit → ASt → Prop} {s : ASt} {id : Nat} (gs : List Nat) {a0 o : Oper} {q : List Oper} (hg : isG gs o = true)
  (h : VX E (a0 :: o :: q) [a0] (lenL s.L) { s with L := addL s.L (holesOf (a0 :: o :: q)) } [] fun s1 _ => gstep E o (lenL s.L + holesOf [a0]) s1 fun e => VX E (a0 :: o :: q) q (lenL s.L + holesOf [a0] + slotsOf o) (s1.app o.dst e) [] (regK false (a0 :: o :: q) fun s => Q .normal s)) :
  awp E.P nb (.region id (a0 :: o :: q).toArray false) Q s := r_gr gs [a0] o q hg h
theorem r_gr2 {E : Env} {nb : Nat} {Q : Exit → ASt → Prop} {s : ASt} {id : Nat} (gs : List Nat) {a0 a1 o : Oper} {q : List Oper} (hg : isG gs o = true)
  (h : VX E (a0 :: a1 :: o :: q) [a0, a1] (lenL s.L) { s with L := addL s.L (holesOf (a0 :: a1 :: o :: q)) } [] fun s1 _ => gstep E o (lenL s.L + holesOf [a0, a1]) s1 fun e => VX E (a0 :: a1 :: o :: q) q (lenL s.L + holesOf [a0, a1] + slotsOf o) (s1.app o.dst e) [] (regK false (a0 :: a1 :: o :: q) fun s => Q .normal s)) :
  awp E.P nb (.region id (a0 :: a1 :: o :: q).toArray false) Q s := r_gr gs [a0, a1] o q hg h
theorem r_gr3 {E : Env} {nb : Nat} {Q : Exit → ASt → Prop} {s : ASt} {id : Nat} (gs : List Nat) {a0 a1 a2 o : Oper} {q : List Oper} (hg : isG gs o = true)
  (h : VX E (a0 :: a1 :: a2 :: o :: q) [a0, a1, a2] (lenL s.L) { s with L := addL s.L (holesOf (a0 :: a1 :: a2 :: o :: q)) } [] fun s1 _ => gstep E o (lenL s.L + holesOf [a0, a1, a2]) s1 fun e => VX E (a0 :: a1 :: a2 :: o :: q) q (lenL s.L + holesOf [a0, a1, a2] + slotsOf o) (s1.app o.dst e) [] (regK false (a0 :: a1 :: a2 :: o :: q) fun s => Q .normal s)) :
  awp E.P nb (.region id (a0 :: a1 :: a2 :: o :: q).toArray false) Q s := r_gr gs [a0, a1, a2] o q hg h
theorem r_gr4 {E : Env} {nb : Nat} {Q : Exit → ASt → Prop} {s : ASt} {id : Nat} (gs : List Nat) {a0 a1 a2 a3 o : Oper} {q : List Oper} (hg : isG gs o = true)
  (h : VX E (a0 :: a1 :: a2 :: a3 :: o :: q) [a0, a1, a2, a3] (lenL s.L) { s with L := addL s.L (holesOf (a0 :: a1 :: a2 :: a3 :: o :: q)) } [] fun s1 _ => gstep E o (lenL s.L + holesOf [a0, a1, a2, a3]) s1 fun e => VX E (a0 :: a1 :: a2 :: a3 :: o :: q) q (lenL s.L + holesOf [a0, a1, a2, a3] + slotsOf o) (s1.app o.dst e) [] (regK false (a0 :: a1 :: a2 :: a3 :: o :: q) fun s => Q .normal s)) :
  awp E.P nb (.region id (a0 :: a1 :: a2 :: a3 :: o :: q).toArray false) Q s := r_gr gs [a0, a1, a2, a3] o q hg h
theorem r_gr5 {E : Env} {nb : Nat} {Q : Exit → ASt → Prop} {s : ASt} {id : Nat} (gs : List Nat) {a0 a1 a2 a3 a4 o : Oper} {q : List Oper} (hg : isG gs o = true)
  (h : VX E (a0 :: a1 :: a2 :: a3 :: a4 :: o :: q) [a0, a1, a2, a3, a4] (lenL s.L) { s with L := addL s.L (holesOf (a0 :: a1 :: a2 :: a3 :: a4 :: o :: q)) } [] fun s1 _ => gstep E o (lenL s.L + holesOf [a0, a1, a2, a3, a4]) s1 fun e => VX E (a0 :: a1 :: a2 :: a3 :: a4 :: o :: q) q (lenL s.L + holesOf [a0, a1, a2, a3, a4] + slotsOf o) (s1.app o.dst e) [] (regK false (a0 :: a1 :: a2 :: a3 :: a4 :: o :: q) fun s => Q .normal s)) :
  awp E.P nb (.region id (a0 :: a1 :: a2 :: a3 :: a4 :: o :: q).toArray false) Q s := r_gr gs [a0, a1, a2, a3, a4] o q hg h
theorem r_gr6 {E : Env} {nb : Nat} {Q : Exit → ASt → Prop} {s : ASt} {id : Nat} (gs : List Nat) {a0 a1 a2 a3 a4 a5 o : Oper} {q : List Oper} (hg : isG gs o = true)
  (h : VX E (a0 :: a1 :: a2 :: a3 :: a4 :: a5 :: o :: q) [a0, a1, a2, a3, a4, a5] (lenL s.L) { s with L := addL s.L (holesOf (a0 :: a1 :: a2 :: a3 :: a4 :: a5 :: o :: q)) } [] fun s1 _ => gstep E o (lenL s.L + holesOf [a0, a1, a2, a3, a4, a5]) s1 fun e => VX E (a0 :: a1 :: a2 :: a3 :: a4 :: a5 :: o :: q) q (lenL s.L + holesOf [a0, a1, a2, a3, a4, a5] + slotsOf o) (s1.app o.dst e) [] (regK false (a0 :: a1 :: a2 :: a3 :: a4 :: a5 :: o :: q) fun s => Q .normal s)) :
  awp E.P nb (.region id (a0 :: a1 :: a2 :: a3 :: a4 :: a5 :: o :: q).toArray false) Q s := r_gr gs [a0, a1, a2, a3, a4, a5] o q hg h
theorem r_gr7 {E : Env} {nb : Nat} {Q : Exit → ASt → Prop} {s : ASt} {id : Nat} (gs : List Nat) {a0 a1 a2 a3 a4 a5 a6 o : Oper} {q : List Oper} (hg : isG gs o = true)
  (h : VX E (a0 :: a1 :: a2 :: a3 :: a4 :: a5 :: a6 :: o :: q) [a0, a1, a2, a3, a4, a5, a6] (lenL s.L) { s with L := addL s.L (holesOf (a0 :: a1 :: a2 :: a3 :: a4 :: a5 :: a6 :: o :: q)) } [] fun s1 _ => gstep E o (lenL s.L + holesOf [a0, a1, a2, a3, a4, a5, a6]) s1 fun e => VX E (a0 :: a1 :: a2 :: a3 :: a4 :: a5 :: a6 :: o :: q) q (lenL s.L + holesOf [a0, a1, a2, a3, a4, a5, a6] + slotsOf o) (s1.app o.dst e) [] (regK false (a0 :: a1 :: a2 :: a3 :: a4 :: a5 :: a6 :: o :: q) fun s => Q .normal s)) :
  awp E.P nb (.region id (a0 :: a1 :: a2 :: a3 :: a4 :: a5 :: a6 :: o :: q).toArray false) Q s := r_gr gs [a0, a1, a2, a3, a4, a5, a6] o q hg h
theorem r_gr8 {E : Env} {nb : Nat} {Q : Exit → ASt → Prop} {s : ASt} {id : Nat} (gs : List Nat) {a0 a1 a2 a3 a4 a5 a6 a7 o : Oper} {q : List Oper} (hg : isG gs o = true)
  (h : VX E (a0 :: a1 :: a2 :: a3 :: a4 :: a5 :: a6 :: a7 :: o :: q) [a0, a1, a2, a3, a4, a5, a6, a7] (lenL s.L) { s with L := addL s.L (holesOf (a0 :: a1 :: a2 :: a3 :: a4 :: a5 :: a6 :: a7 :: o :: q)) } [] fun s1 _ => gstep E o (lenL s.L + holesOf [a0, a1, a2, a3, a4, a5, a6, a7]) s1 fun e => VX E (a0 :: a1 :: a2 :: a3 :: a4 :: a5 :: a6 :: a7 :: o :: q) q (lenL s.L + holesOf [a0, a1, a2, a3, a4, a5, a6, a7] + slotsOf o) (s1.app o.dst e) [] (regK false (a0 :: a1 :: a2 :: a3 :: a4 :: a5 :: a6 :: a7 :: o :: q) fun s => Q .normal s)) :
  awp E.P nb (.region id (a0 :: a1 :: a2 :: a3 :: a4 :: a5 :: a6 :: a7 :: o :: q).toArray false) Q s := r_gr gs [a0, a1, a2, a3, a4, a5, a6, a7] o q hg h
theorem r_gr9 {E : Env} {nb : Nat} {Q : Exit → ASt → Prop} {s : ASt} {id : Nat} (gs : List Nat) {a0 a1 a2 a3 a4 a5 a6 a7 a8 o : Oper} {q : List Oper} (hg : isG gs o = true)
  (h : VX E (a0 :: a1 :: a2 :: a3 :: a4 :: a5 :: a6 :: a7 :: a8 :: o :: q) [a0, a1, a2, a3, a4, a5, a6, a7, a8] (lenL s.L) { s with L := addL s.L (holesOf (a0 :: a1 :: a2 :: a3 :: a4 :: a5 :: a6 :: a7 :: a8 :: o :: q)) } [] fun s1 _ => gstep E o (lenL s.L + holesOf [a0, a1, a2, a3, a4, a5, a6, a7, a8]) s1 fun e => VX E (a0 :: a1 :: a2 :: a3 :: a4 :: a5 :: a6 :: a7 :: a8 :: o :: q) q (lenL s.L + holesOf [a0, a1, a2, a3, a4, a5, a6, a7, a8] + slotsOf o) (s1.app o.dst e) [] (regK false (a0 :: a1 :: a2 :: a3 :: a4 :: a5 :: a6 :: a7 :: a8 :: o :: q) fun s => Q .normal s)) :
  awp E.P nb (.region id (a0 :: a1 :: a2 :: a3 :: a4 :: a5 :: a6 :: a7 :: a8 :: o :: q).toArray false) Q s := r_gr gs [a0, a1, a2, a3, a4, a5, a6, a7, a8] o q hg h
theorem r_gr10 {E : Env} {nb : Nat} {Q : Exit → ASt → Prop} {s : ASt} {id : Nat} (gs : List Nat) {a0 a1 a2 a3 a4 a5 a6 a7 a8 a9 o : Oper} {q : List Oper} (hg : isG gs o = true)
  (h : VX E (a0 :: a1 :: a2 :: a3 :: a4 :: a5 :: a6 :: a7 :: a8 :: a9 :: o :: q) [a0, a1, a2, a3, a4, a5, a6, a7, a8, a9] (lenL s.L) { s with L := addL s.L (holesOf (a0 :: a1 :: a2 :: a3 :: a4 :: a5 :: a6 :: a7 :: a8 :: a9 :: o :: q)) } [] fun s1 _ => gstep E o (lenL s.L + holesOf [a0, a1, a2, a3, a4, a5, a6, a7, a8, a9]) s1 fun e => VX E (a0 :: a1 :: a2 :: a3 :: a4 :: a5 :: a6 :: a7 :: a8 :: a9 :: o :: q) q (lenL s.L + holesOf [a0, a1, a2, a3, a4, a5, a6, a7, a8, a9] + slotsOf o) (s1.app o.dst e) [] (regK false (a0 :: a1 :: a2 :: a3 :: a4 :: a5 :: a6 :: a7 :: a8 :: a9 :: o :: q) fun s => Q .normal s)) :
  awp E.P nb (.region id (a0 :: a1 :: a2 :: a3 :: a4 :: a5 :: a6 :: a7 :: a8 :: a9 :: o :: q).toArray false) Q s := r_gr gs [a0, a1, a2, a3, a4, a5, a6, a7, a8, a9] o q hg h
structure endX (E : Env) (rs : List ResultVar) (nb : Nat) {G : Type} (r : G → AV) (L' : G → List Ob) (ex : Exit) (s : ASt) : Prop where
 run : ∃ g, endA E rs nb (r g) (L' g) ex s
theorem endX_i {E : Env} {rs : List ResultVar} {nb : Nat} {G : Type} {r : G → AV} {L' : G → List Ob} {ex : Exit} {s : ASt} (g : G) (h : endA E rs nb (r g) (L' g) ex s) : endX E rs nb r L' ex s := ⟨g, h⟩
@[congr] theorem endX_congr {E : Env} {rs : List ResultVar} {nb : Nat} {G : Type} {r : G → AV} {L' : G → List Ob} {ex : Exit} {s s' : ASt} (h : s = s') : endX E rs nb r L' ex s = endX E rs nb r L' ex s' := by rw [h]
theorem yC {E : Env} {f : FuncId} {fn : Func} {c : Code} {args : List AV} {L : List Ob} {G : Type} {r : G → AV} {L' : G → List Ob} (n : Nat) (rs : List ResultVar) (hf : E.P.funcs[f]? = some fn) (hb : fn.body = some c) (hnt : fn.ntmps = n) (hrs : fn.results.toList = rs) (hname : (fn.name == "runtime.NumGoroutine") = false) (hn : Nat.ble args.length n = true)
  (hl : ∀ g, Nat.ble L.length (L' g).length = true) (h : awp E.P L.length c (endX E rs L.length r L') ⟨n, initA 0 args, someL L⟩) : ACallsX E.P f args L r L' := by
 subst hnt
 subst hrs
 refine ⟨⟨fn, hf, by rw [hb]; rfl, hname⟩, fun g => Nat.le_of_ble_eq_true (hl g), fun Z lb w vals ho hlt0 hr => ?_⟩
 have hn := Nat.le_of_ble_eq_true hn
 have hlen := hr.length
 have hst : St Z lb ⟨fn.ntmps, initA 0 args, someL L⟩ { tmps := vals.toArray ++ Array.replicate (fn.ntmps - vals.toArray.size) undef, defers := [] } w := by
  refine ⟨by rw [someL_eq]; exact ho, ?_, Marks.nil hlt0, by simp; omega⟩
  intro d x hx
  obtain ⟨_, hy⟩ := initA_get hx
  rw [Nat.sub_zero] at hy
  obtain ⟨u, h1, h2⟩ := hr.get d x hy
  have hdl : d < vals.length := by
   rcases Nat.lt_or_ge d vals.length with h' | h'
   ·exact h'
   ·simp [List.getElem?_eq_none h'] at h1
  refine ⟨u, ?_, h2⟩
  rw [Array.getElem?_append_left (by simpa using hdl)]
  simpa using h1
 refine calls_awp hf hb h hst ?_
 rintro ex a' w' Z' lb' s' h1 h2 hdf ⟨g, h3⟩
 have fin : (withC (resVals E s' fn.results.toList) fun xs => wkAll L.length ⟨1, [(0, some (resAll xs))], s'.L⟩ ⟨1, [(0, some (r g))], someL (L' g)⟩ (sgOf L.length ⟨1, [(0, some (resAll xs))], s'.L⟩ [(0, some (r g))] (someL (L' g)))) →
   a'.defers = [] ∧ ∃ v, (results fn a'.tmps).run E.P w' = .ok v w' ∧ ∃ g u Z' lb', Ending.returned v = .returned u ∧ Own Z' lb' ((L' g).map some) w' ∧ ARep Z' lb' w' (r g) u ∧
    w'.os = w.os ∧ w'.tape = w.tape ∧ OutD w w' ∧ w.heap.size ≤ w'.heap.size ∧ Keep Z w w' ∧ (∀ b, Z b → Z' b) ∧ (∀ b, Z' b → b < w.heap.size → Z b ∨ ∃ i : Nat, lb[i]? = some (some (some b))) ∧ BsLe w w' ∧
    (∀ b, b < w.heap.size → (∀ i : Nat, lb[i]? ≠ some (some (some b))) → w'.heap[b]? = w.heap[b]?) ∧ (∀ (i : Nat) b, lb'[i]? = some (some (some b)) → (∃ j : Nat, lb[j]? = some (some (some b))) ∨ (w.heap.size ≤ b ∧ b < w'.heap.size)) ∧
    (∀ (i : Nat) x, i < L.length → lb[i]? = some (some x) → lb'[i]? = some (some x)) := by
  intro h3
  obtain ⟨xs, hxs, h3⟩ := withC_some h3
  obtain ⟨u, hrun, hrep⟩ := run_results h2 hxs
  have hst2 : St Z' lb' ⟨1, [(0, some (resAll xs))], s'.L⟩ { tmps := #[u], defers := [] } w' := by
   refine ⟨h2.own, ?_, Marks.nil h2.df.1, rfl⟩
   intro d x hx
   simp only [tget] at hx
   split at hx
   ·rename_i hb
    have := Nat.eq_of_beq_eq_true hb
    subst this
    simp only [Option.some.injEq] at hx
    subst hx
    exact ⟨u, rfl, hrep⟩
   ·simp at hx
  obtain ⟨Z2, lb2, e2, st2⟩ := wk_auto (s' := ⟨1, [(0, some (r g))], someL (L' g)⟩) h3 Z' lb' _ w' hst2
  obtain ⟨u', k1, k2⟩ := st2.tm 0 (r g) rfl
  simp at k1
  subst k1
  have e := h1.trans e2
  refine ⟨hdf, u, hrun, g, u, Z2, lb2, rfl, by rw [← someL_eq]; exact st2.own, k2, e.os, e.tape, e.output, e.size, e.keep, e.z1, e.z2, e.bs, e.hp, e.fresh, e.kp⟩
 cases ex with
 | normal => exact ⟨.inl rfl, (fin h3).2⟩
 | ret => exact ⟨.inr rfl, (fin h3).2⟩
 | _ => exact h3.elim
@[congr] theorem renAs_congr {f : Nat → Nat} {l l' : List AV} (h : l = l') : renAs f l = renAs f l' := by rw [h]
@[congr] theorem renA_congr {f : Nat → Nat} {l l' : AV} (h : l = l') : renA f l = renA f l' := by rw [h]
@[congr] theorem renO_congr {f : Nat → Nat} {l l' : Ob} (h : l = l') : renO f l = renO f l' := by rw [h]
@[congr] theorem lentObs_congr {ℓ : Nat → Option (Option Ob)} {f : Nat → Nat} {l l' : List Nat} (h : l = l') : lentObs ℓ f l = lentObs ℓ f l' := by rw [h]
@[congr] theorem gstep_congr {E : Env} {o : Oper} {r r' : Nat} {s s' : ASt} {K : Eff → Prop} (h1 : r = r') (h2 : s = s') : gstep E o r s K = gstep E o r' s' K := by rw [h1, h2]
@[congr] theorem gop_congr {E : Env} {o : Oper} {r r' : Nat} {ρ : Operand → Option AV} {ℓ : Nat → Option (Option Ob)} {K : Eff → Prop} (h : r = r') : gop E o r ρ ℓ K = gop E o r' ρ ℓ K := by rw [h]
@[congr] theorem gCall_congr {E : Env} {r r' : Nat} {f : Operand} {args args' : List Operand} {ρ : Operand → Option AV} {ℓ : Nat → Option (Option Ob)} {K : Eff → Prop} (h : r = r') (h2 : args = args') : gCall E r f args ρ ℓ K = gCall E r' f args' ρ ℓ K := by rw [h, h2]
@[congr] theorem gAppend_congr {E : Env} {r r' : Nat} {T T2 : TypeId} {x y : Operand} {ρ : Operand → Option AV} {ℓ : Nat → Option (Option Ob)} {K : Eff → Prop} (h : r = r') : gAppend E r T T2 x y ρ ℓ K = gAppend E r' T T2 x y ρ ℓ K := by rw [h]
@[congr] theorem lendX_congr {E : Env} {r r' : Nat} {g : FuncId} {ℓ : Nat → Option (Option Ob)} {xa xa' : List AV} {K : Eff → Prop} (h : r = r') (h2 : xa = xa') : lendX E r g ℓ xa K = lendX E r' g ℓ xa' K := by rw [h, h2]
@[congr] theorem lendK_congr {E : Env} {r r' : Nat} {g : FuncId} {ℓ : Nat → Option (Option Ob)} {xa xa' : List AV} {K : Eff → Prop} (h : r = r') (h2 : xa = xa') : lendK E r g ℓ xa K = lendK E r' g ℓ xa' K := by rw [h, h2]
attribute [go_sem] gstep gop gCall gInvoke gAppend lendX
end Go.Ab
namespace Go.Ab
variable [Glob]
theorem Own.swap {Z : Nat → Prop} {lb : Lb} {L : List (Option Ob)} {w : World} (h : Own Z lb L w) (hlt : LtB lb w) {i : Nat} {o o' : Ob} (hi : L[i]? = some (some o)) (hl : o'.live → o.live) (hob : ∀ x, lb[i]? = some (some x) → ObAt Z lb w o x → ObAt Z lb w o' x) : Own Z lb (L.set i (some o')) w := by
 have hs : St Z lb ⟨0, [], L⟩ { tmps := #[], defers := [] } w := ⟨h, fun d x hx => by simp [tget] at hx, Marks.nil hlt, rfl⟩
 have := (hs.swap hi hl hob).own
 rwa [setL_eq] at this
theorem acalls_mp {P : Program} {f : FuncId} {args : List AV} {L L' : List Ob} {r : AV} (i : Nat) (kk : Option IntKind) (ek : EK) (hi : L[i]? = some (.mp kk ek)) (hi' : L'[i]? = some (.mp kk ek)) (hc : Callable P f) (hl : L.length ≤ L'.length)
  (h : ∀ es cl, MapIs kk ek es cl → ACalls P f args (L.set i (.mpx kk es cl)) r (L'.set i (.mpx kk es cl))) : ACalls P f args L r L' := by
 refine ⟨hc, hl, fun Z lb w vals ho hlt0 hr => ?_⟩
 have hi2 : (L.map some)[i]? = some (some (.mp kk ek)) := by simp [hi]
 obtain ⟨x, g1, g2⟩ := ho.obj i _ hi2
 cases x with
 | none => exact g2.elim
 | some b =>
  obtain ⟨z1, z2, es, cl, hh, hm⟩ := g2
  have ho2 := ho.swap hlt0 (o' := .mpx kk es cl) hi2 (fun _ => trivial) (fun x hx _ => by
   rw [g1] at hx
   simp only [Option.some.injEq] at hx
   subst hx
   exact ⟨z1, z2, hh⟩)
  rw [← List.map_set] at ho2
  refine ((h es cl hm).2.2 Z lb w vals ho2 hlt0 hr).mono ?_
  rintro e w' ⟨u, Z', lb', he, ho', har, q1, q2, q3, q4, q5, q6, q7, q8, q9, q10, q11⟩
  have hlt : i < L'.length := by
   rcases Nat.lt_or_ge i L'.length with h' | h'
   ·exact h'
   ·simp [List.getElem?_eq_none h'] at hi'
  have hi3 : ((L'.set i (.mpx kk es cl)).map some)[i]? = some (some (.mpx kk es cl)) := by simp [hlt]
  have ho3 := ho'.swap (hlt0.core q4 q10) (o' := .mp kk ek) hi3 (fun _ => trivial) (fun x hx hob => by
   cases x with
   | none => exact hob.elim
   | some b' => exact ⟨hob.1, hob.2.1, es, cl, hob.2.2, hm⟩)
  have hback : L'.set i (.mp kk ek) = L' := by
   apply List.ext_getElem?
   intro j
   by_cases e : i = j
   ·subst e; rw [List.getElem?_set_self hlt, hi']
   ·rw [List.getElem?_set_ne e]
  rw [← List.map_set, List.set_set, hback] at ho3
  exact ⟨u, Z', lb', he, ho3, har, q1, q2, q3, q4, q5, q6, q7, q8, q9, q10, fun j y hj hy => q11 j y (by simpa using hj) hy⟩
end Go.Ab
namespace Go.Ab
end Go.Ab
namespace Go.Ab
variable [Glob]
theorem resS_append : ∀ (l1 : List Oper) (e1 : List (Option Eff)) (S : Nat → Bool) (l2 : List Oper) (e2 : List (Option Eff)) (s : ASt), e1.length = l1.length → resS S (l1 ++ l2) (e1 ++ e2) s = resS (fun j => S (j + l1.length)) l2 e2 (resS S l1 e1 s)
 | [], [], S, l2, e2, s, _ => by simp [resS]
 | [], _ :: _, _, _, _, _, h => by simp at h
 | _ :: _, [], _, _, _, _, h => by simp at h
 | o :: l1, e :: e1, S, l2, e2, s, h => by
  simp only [List.cons_append, resS]
  rw [resS_append l1 e1 _ l2 e2 _ (by simpa using h)]
  rfl
section any
variable {E : Env} {A : Array Oper} {l : List Oper} {es : List (Option Eff)} {s0 s' : ASt}
theorem any_soundX {ρ : Option Nat} {d0 : List Deferred} (hρ : ρ = none ∨ l.all rfO = true) (q : Nat) (c : Bool) (hA : A.toList = l) (hlen : es.length = l.length) (hend : Same s' (resS (fun _ => true) l es s0))
  (hget : ∀ (i : Nat) o e, i ≠ q → l[i]? = some o → es[i]? = some e → ∃ s₁, Rec E l o s₁ e ∧ Same s₁ (resS (fun j => decide (j < i)) l es s0)) (hc : Compat l es) {Q : Exit → Act → World → Prop}
  {Z0 : Nat → Prop} {lb0 : Lb} {w0 : World} (hQ : c = true → ∀ Z' lb' a' w', Stp Z0 lb0 w0 Z' lb' w' → St Z' lb' s' a' w' → a'.defers = d0 → Q .normal a' w')
  (HX : c = false → ∀ (fuel : Nat) (listed : Array Bool), listed.size = l.length → (∀ i j, listed.getD i false = true → Bef l j i → listed.getD j false = true) → listed.getD q false = false → (∀ j, Bef l j q → listed.getD j false = true) → (∀ j, Bef l q j → listed.getD j false = false) →
   ((List.range l.length).filter fun i => !(listed.setIfInBounds q true).getD i true).length ≤ fuel → ∀ (Z : Nat → Prop) (lb : Lb) (a : Act) (w : World), Stp Z0 lb0 w0 Z lb w → St Z lb (resS (fun j => listed.getD j false) l es s0) a w → a.defers = d0 → wpOpIn (wd ρ) 0 E.P A Q q (wpAnyIn (wd ρ) 0 E.P .any A Q fuel (listed.setIfInBounds q true)) a w) (hq : q < l.length) : ∀ (fuel : Nat) (listed : Array Bool), listed.size = l.length →
  (∀ i j, listed.getD i false = true → Bef l j i → listed.getD j false = true) → listed.getD q false = c →
  ((List.range l.length).filter fun i => !listed.getD i true).length ≤ fuel →
  ∀ {Z : Nat → Prop} {lb : Lb} {a : Act} {w : World}, Stp Z0 lb0 w0 Z lb w → St Z lb (resS (fun j => listed.getD j false) l es s0) a w → a.defers = d0 →
  wpAnyIn (wd ρ) 0 E.P .any A Q fuel listed a w := by
 have hsz : A.size = l.length := by rw [← hA, Array.length_toList]
 have hAi : ∀ i : Nat, A[i]? = l[i]? := fun i => by rw [← hA, Array.getElem?_toList]
 -- nothing is ready: all have come up
 have hdone : ∀ (listed : Array Bool), listed.size = l.length → Region.ready .any A listed = [] → ∀ i, i < l.length → listed.getD i false = true := by
  intro listed hls hr i
  induction i using Nat.strongRecOn with
  | _ i ih =>
   intro hi
   cases hli : listed.getD i false with
   | true => rfl
   | false =>
    exfalso
    have hmem : i ∈ Region.ready .any A listed := by
     unfold Region.ready
     refine List.mem_filter.2 ⟨by simpa [hsz] using hi, ?_⟩
     have h1 : listed.getD i true = false := by
      have hil : i < listed.size := by omega
      simpa [Array.getD, hil] using hli
     obtain ⟨o, ho⟩ : ∃ o, l[i]? = some o := ⟨l[i], by simp [hi]⟩
     simp only [h1, Bool.not_false, Bool.true_and, hAi, ho, Option.map_some, Option.getD_some]
     rw [← Array.all_toList, List.all_eq_true]
     intro g hg
     cases hb : Region.binds .any g with
     | false => rfl
     | true => simp only [Bool.not_true, Bool.false_or]; exact ih _ (hc.back i o ho g hg hb) (by have := hc.back i o ho g hg hb; omega)
    rw [hr] at hmem
    simp at hmem
 have hfin : ∀ (listed : Array Bool), listed.size = l.length → Region.ready .any A listed = [] → ∀ {Z : Nat → Prop} {lb : Lb} {a : Act} {w : World}, St Z lb (resS (fun j => listed.getD j false) l es s0) a w → St Z lb s' a w := by
  intro listed hls hr Z lb a w hs
  refine Same.st ?_ hs
  refine Same.trans (same_of_at (by rw [(resS_len _ _ _ _).2, (resS_len _ _ _ _).2]) fun x => ?_) hend.symm
  refine resS_agree x l es _ _ _ _ rfl rfl fun j o e h1 h2 _ => ?_
  exact hdone listed hls hr j (by
   rcases Nat.lt_or_ge j l.length with h' | h'
   ·exact h'
   ·simp [List.getElem?_eq_none h'] at h1)
 intro fuel
 induction fuel with
 | zero =>
  intro listed hls hcl hlq hcount Z lb a w hst0 hs hd0
  have hall : ∀ i, i < l.length → listed.getD i true = true := by
   intro i hi
   cases hli : listed.getD i true with
   | true => rfl
   | false =>
    have : i ∈ (List.range l.length).filter fun i => !listed.getD i true := List.mem_filter.2 ⟨by simpa using hi, by simp [hli]⟩
    have h0 : (List.range l.length).filter (fun i => !listed.getD i true) = [] := List.length_eq_zero_iff.1 (by omega)
    rw [h0] at this
    simp at this
  have hr : Region.ready .any A listed = [] := by
   unfold Region.ready
   rw [List.filter_eq_nil_iff]
   intro i hi
   have := hall i (by simpa [hsz] using hi)
   simp [this]
  exact ⟨hr, hQ (by rw [← hlq]; exact hdone listed hls hr q hq) _ _ _ _ hst0 (hfin listed hls hr hs) hd0⟩
 | succ fuel ih =>
  intro listed hls hcl hlq hcount Z lb a w hst0 hs hd0
  refine ⟨fun hr => hQ (by rw [← hlq]; exact hdone listed hls hr q hq) _ _ _ _ hst0 (hfin listed hls hr hs) hd0, fun i hi => ?_⟩
  unfold Region.ready at hi
  obtain ⟨hi1, hi2⟩ := List.mem_filter.1 hi
  have hil : i < l.length := by simpa [hsz] using hi1
  obtain ⟨o, ho⟩ : ∃ o, l[i]? = some o := ⟨l[i], by simp [hil]⟩
  obtain ⟨e, he⟩ : ∃ e, es[i]? = some e := ⟨es[i]'(by omega), by simp [show i < es.length by omega]⟩
  simp only [hAi, ho, Option.map_some, Option.getD_some, Bool.and_eq_true, Bool.not_eq_true'] at hi2
  obtain ⟨hun, hedges⟩ := hi2
  have hunf : listed.getD i false = false := by
   have hil' : i < listed.size := by omega
   simpa [Array.getD, hil'] using hun
  have hdirect : ∀ g, g ∈ o.after.toList → Region.binds .any g = true → listed.getD g.on false = true := by
   rw [← Array.all_toList, List.all_eq_true] at hedges
   intro g hg hb
   have := hedges g hg
   simpa [hb] using this
  have hbef : ∀ j, Bef l j i → listed.getD j false = true := by
   intro j hb
   cases hb with
   | one h hg hbn hj => rw [ho] at h; simp only [Option.some.injEq] at h; subst h; subst hj; exact hdirect _ hg hbn
   | more h hg hbn hj hk => rw [ho] at h; simp only [Option.some.injEq] at h; subst h; subst hj; exact hcl _ _ (hdirect _ hg hbn) hk
  have hlater : ∀ j, Bef l i j → listed.getD j false = false := by
   intro j hb
   cases hj : listed.getD j false with
   | false => rfl
   | true => have := hcl j i hj hb; rw [hunf] at this; simp at this
  have hcnt : ((List.range l.length).filter fun j => !(listed.setIfInBounds i true).getD j true).length ≤ fuel := by
   have := filt_lt (fun j => !listed.getD j true) (fun j => !(listed.setIfInBounds i true).getD j true) (List.range l.length) (fun j _ hj => by
      by_cases hji : j = i
      ·subst hji; simp [hun]
      ·simpa [Array.getD_eq_getD_getElem?, Array.getElem?_setIfInBounds_ne (fun hh => hji hh.symm)] using hj) i (by simpa using hil) (by simp [hun]) (by
      have : i < listed.size := by omega
      simp [Array.getD, this])
   omega
  by_cases hiq : i = q
  ·subst hiq
   exact HX (by rw [← hlq]; exact hunf) fuel listed hls hcl hunf hbef hlater hcnt Z lb a w hst0 hs hd0
  obtain ⟨s₁, hrec, hsame⟩ := hget i o e hiq ho he
  -- what it looks at is as it was in the text's order
  have hagree : ∀ x, Tc l o e x → (resS (fun j => listed.getD j false) l es s0).at x = s₁.at x := by
   intro x hx
   rw [hsame.at x]
   refine resS_agree x l es _ _ _ _ rfl rfl fun j oj ej h1 h2 hwr => ?_
   rcases Nat.lt_trichotomy j i with hlt | heq | hgt
   ·rw [decide_eq_true hlt]
    exact hbef j (hc.conf i j o oj e ej hlt ho h1 he h2 ⟨x, .inl ⟨hwr, hx⟩⟩)
   ·subst heq; rw [hunf]; simp
   ·rw [decide_eq_false (by omega)]
    exact hlater j (hc.conf j i oj o ej e hgt h1 ho h2 he ⟨x, .inr ⟨hwr, hx⟩⟩)
  have hL1 : (resS (fun j => listed.getD j false) l es s0).L.length = s₁.L.length := by
   rw [(resS_len _ _ _ _).1, show s₁.L.length = (resS (fun j => decide (j < i)) l es s0).L.length by rw [hsame.L], (resS_len _ _ _ _).1]
  have hn1 : (resS (fun j => listed.getD j false) l es s0).n = s₁.n := by rw [(resS_len _ _ _ _).2, hsame.1, (resS_len _ _ _ _).2]
  -- behind it
  have hnext : Same ((resS (fun j => listed.getD j false) l es s0).eff o e) (resS (fun j => (listed.setIfInBounds i true).getD j false) l es s0) := by
   have hset : ∀ j, (listed.setIfInBounds i true).getD j false = if j = i then true else listed.getD j false := by
    intro j
    by_cases hji : j = i
    ·subst hji
     have : j < listed.size := by omega
     simp [Array.getD, this]
    ·simp only [hji, if_false, Array.getD_eq_getD_getElem?, Array.getElem?_setIfInBounds_ne (fun hh => hji hh.symm)]
   refine same_of_at (by rw [(eff_len _ _ _).2, (resS_len _ _ _ _).2, (resS_len _ _ _ _).2]) fun x => ?_
   by_cases hx : Wr o e x
   ·have h1 : (resS (fun j => (listed.setIfInBounds i true).getD j false) l es s0).at x = (resS (fun j => decide (j < i + 1)) l es s0).at x := by
     refine resS_agree x l es _ _ _ _ rfl rfl fun j oj ej h1 h2 hwr => ?_
     rw [hset]
     rcases Nat.lt_trichotomy j i with hlt | heq | hgt
     ·rw [decide_eq_true (by omega), if_neg (by omega)]
      exact hbef j (hc.conf i j o oj e ej hlt ho h1 he h2 ⟨x, .inl ⟨hwr, hx.tc⟩⟩)
     ·subst heq; simp
     ·rw [decide_eq_false (by omega), if_neg (by omega)]
      exact hlater j (hc.conf j i oj o ej e hgt h1 ho h2 he ⟨x, .inr ⟨hwr, hx.tc⟩⟩)
    rw [h1, resS_succ l es i s0 o e ho he]
    exact eff_write (by rw [(resS_len _ _ _ _).1, (resS_len _ _ _ _).1]) hx
   ·rw [eff_other _ hx]
    refine resS_agree x l es _ _ _ _ rfl rfl fun j oj ej h1 h2 hwr => ?_
    rw [hset]
    by_cases hji : j = i
    ·subst hji
     rw [ho] at h1; rw [he] at h2
     simp only [Option.some.injEq] at h1 h2
     subst h1; subst h2
     exact absurd hwr hx
    ·rw [if_neg hji]
  have hstep : ∀ {Z' : Nat → Prop} {lb' : Lb} {a' : Act} {w' : World}, Stp Z lb w Z' lb' w' → St Z' lb' ((resS (fun j => listed.getD j false) l es s0).eff o e) a' w' → a'.defers = a.defers → wpAnyIn (wd ρ) 0 E.P .any A Q fuel (listed.setIfInBounds i true) a' w' := by
   intro Z' lb' a' w' st hs' hdf
   refine ih (listed.setIfInBounds i true) (by simpa using hls) ?_ ?_ ?_ (hst0.trans st) (hnext.st hs') (hdf.trans hd0)
   ·have hset : ∀ j, (listed.setIfInBounds i true).getD j false = true ↔ (j = i ∨ listed.getD j false = true) := by
     intro j
     by_cases hji : j = i
     ·subst hji
      have : j < listed.size := by omega
      simp [Array.getD, this]
     ·simp only [hji, false_or, Array.getD_eq_getD_getElem?, Array.getElem?_setIfInBounds_ne (fun hh => hji hh.symm)]
    intro k j hk hb
    rw [hset] at hk ⊢
    rcases hk with rfl | hk
    ·exact .inr (hbef j hb)
    ·exact .inr (hcl k j hk hb)
   ·rw [← hlq]
    simp only [Array.getD_eq_getD_getElem?, Array.getElem?_setIfInBounds_ne hiq]
   ·exact hcnt
  unfold wpOpIn
  simp only [hAi, ho]
  have hw : Region.wanted o (yielded A a.tmps) = e.isSome := by
   rcases hrec.guard with ⟨h1, h3⟩ | ⟨d, want, b, h1, h3, h4⟩ | ⟨d, want, h1, h3, h4⟩
   ·rw [h3]; simp [Region.wanted, h1]
   ·have := hagree (.t d) (.inr (.inr ⟨want, h1⟩))
    simp only [ASt.at, Sum.inl.injEq] at this
    rw [wanted_guard hA h1 hs (this.trans h3), h4]
   ·have := hagree (.t d) (.inr (.inr ⟨want, h1⟩))
    simp only [ASt.at, Sum.inl.injEq] at this
    rw [wanted_undef hA h1 hs (this.trans h3), h4]
  rw [hw]
  cases e with
  | some e =>
   rw [if_pos (show (some e).isSome = true from rfl)]
   refine wp_in (rf_op hρ (List.mem_of_getElem? ho)) (hrec.run e rfl _ (by rw [hn1]; exact hrec.dst) ?_ ?_ Z lb a w hs _ _ fun Z' lb' a' w' st hs' hdf => hstep st hs' hdf)
   ·intro x hx
    cases x with
    | tmp d =>
     have := hagree (.t d) (.inr (.inl (by simpa using hx)))
     simpa [ASt.at, ev] using this
    | const v => cases v <;> rfl
    | _ => rfl
   ·intro k hk
    have := hagree (.o k) ⟨e, rfl, hk⟩
    simpa [ASt.at] using this
  | none =>
   rw [if_neg (by simp)]
   exact ⟨fun _ _ => trivial, hstep (Stp.refl _ _ _) (hs.put (Stp.refl _ _ _) hs.own (by rw [hn1]; exact hrec.dst) fun y hy => by cases hy; simp only [ARep, AReps]; exact ⟨[], rfl, rfl⟩) put_df⟩
theorem resS_tc (hc : Compat l es) {listed : Array Bool} {i : Nat} {o : Oper} {e : Option Eff} (ho : l[i]? = some o) (he : es[i]? = some e) (hunf : listed.getD i false = false) (hbef : ∀ j, Bef l j i → listed.getD j false = true) (hlater : ∀ j, Bef l i j → listed.getD j false = false) {x : Loc} (hx : Tc l o e x) :
  (resS (fun j => listed.getD j false) l es s0).at x = (resS (fun j => decide (j < i)) l es s0).at x := by
 refine resS_agree x l es _ _ _ _ rfl rfl fun j oj ej h1 h2 hwr => ?_
 rcases Nat.lt_trichotomy j i with hlt | heq | hgt
 ·rw [decide_eq_true hlt]
  exact hbef j (hc.conf i j o oj e ej hlt ho h1 he h2 ⟨x, .inl ⟨hwr, hx⟩⟩)
 ·subst heq; rw [hunf]; simp
 ·rw [decide_eq_false (by omega)]
  exact hlater j (hc.conf j i oj o ej e hgt h1 ho h2 he ⟨x, .inr ⟨hwr, hx⟩⟩)
theorem resS_next (hc : Compat l es) {listed : Array Bool} (hls : listed.size = l.length) {i : Nat} (hil : i < l.length) {o : Oper} {e : Option Eff} (ho : l[i]? = some o) (he : es[i]? = some e) (hbef : ∀ j, Bef l j i → listed.getD j false = true) (hlater : ∀ j, Bef l i j → listed.getD j false = false) :
  Same ((resS (fun j => listed.getD j false) l es s0).eff o e) (resS (fun j => (listed.setIfInBounds i true).getD j false) l es s0) := by
 have hset : ∀ j, (listed.setIfInBounds i true).getD j false = if j = i then true else listed.getD j false := by
  intro j
  by_cases hji : j = i
  ·subst hji
   have : j < listed.size := by omega
   simp [Array.getD, this]
  ·simp only [hji, if_false, Array.getD_eq_getD_getElem?, Array.getElem?_setIfInBounds_ne (fun hh => hji hh.symm)]
 refine same_of_at (by rw [(eff_len _ _ _).2, (resS_len _ _ _ _).2, (resS_len _ _ _ _).2]) fun x => ?_
 by_cases hx : Wr o e x
 ·have h1 : (resS (fun j => (listed.setIfInBounds i true).getD j false) l es s0).at x = (resS (fun j => decide (j < i + 1)) l es s0).at x := by
   refine resS_agree x l es _ _ _ _ rfl rfl fun j oj ej h1 h2 hwr => ?_
   rw [hset]
   rcases Nat.lt_trichotomy j i with hlt | heq | hgt
   ·rw [decide_eq_true (by omega), if_neg (by omega)]
    exact hbef j (hc.conf i j o oj e ej hlt ho h1 he h2 ⟨x, .inl ⟨hwr, hx.tc⟩⟩)
   ·subst heq; simp
   ·rw [decide_eq_false (by omega), if_neg (by omega)]
    exact hlater j (hc.conf j i oj o ej e hgt h1 ho h2 he ⟨x, .inr ⟨hwr, hx.tc⟩⟩)
  rw [h1, resS_succ l es i s0 o e ho he]
  exact eff_write (by rw [(resS_len _ _ _ _).1, (resS_len _ _ _ _).1]) hx
 ·rw [eff_other _ hx]
  refine resS_agree x l es _ _ _ _ rfl rfl fun j oj ej h1 h2 hwr => ?_
  rw [hset]
  by_cases hji : j = i
  ·subst hji
   rw [ho] at h1; rw [he] at h2
   simp only [Option.some.injEq] at h1 h2
   subst h1; subst h2
   exact absurd hwr hx
  ·rw [if_neg hji]
end any
def subN : List Nat → List Nat → Bool
 | [], _ => true
 | x :: σ, T => match elN x T with
  | true => subN σ T
  | false => false
theorem subN_of : ∀ {σ T : List Nat}, (∀ x, x ∈ σ → elN x T = true) → subN σ T = true
 | [], _, _ => rfl
 | x :: σ, T, h => by simp only [subN, h x List.mem_cons_self]; exact subN_of fun y hy => h y (List.mem_cons_of_mem _ hy)
theorem elN_mem : ∀ {x : Nat} {l : List Nat}, elN x l = true → x ∈ l
 | x, [], h => by simp [elN] at h
 | x, y :: l, h => by
  simp only [elN] at h
  split at h
  ·rename_i hb
   rw [Nat.eq_of_beq_eq_true hb]; exact List.mem_cons_self
  ·exact List.mem_cons_of_mem _ (elN_mem h)
theorem subN_mem : ∀ {σ T : List Nat}, subN σ T = true → ∀ {x : Nat}, x ∈ σ → x ∈ T
 | y :: σ, T, h, x, hx => by
  simp only [subN] at h
  split at h
  ·rename_i hy
   rcases List.mem_cons.1 hx with rfl | hx
   ·exact elN_mem hy
   ·exact subN_mem h hx
  ·cases h
def lendXT (T : List Nat) (E : Env) (rank : Nat) (g : FuncId) (ℓ : Nat → Option (Option Ob)) (xa : List AV) (K : Eff → Prop) : Prop :=
 forceX (own1 ℓ (refAs xa)) fun l1 => dfsSK ℓ l1 [] (fun σ => forceA (renAs (pos0 σ) xa) fun cas => forceB (lentObs ℓ (pos0 σ) σ) fun Lc =>
  (renAs (atF σ rank) cas = xa ∧ inBs σ.length cas = true ∧ lentOk ℓ (atF σ rank) σ.length σ Lc ∧ freshN σ = true ∧ subN σ T = true) ∧
   callX E g cas Lc (fun r L' => afterA ℓ rank σ σ L' [] fun wr => K ⟨some (renA (atF σ rank) r), [], wr⟩) ⟨⟩) ⟨⟩
def gCallT (T : List Nat) (E : Env) (rank : Nat) (f : Operand) (args : List Operand) : Vop := fun ρ ℓ K => withV (ρ f) fun
 | .p (.fn g caps) => withC (gatherA ρ args) fun xa => forceA (appA xa (mapP caps)) fun l => lendXT T E rank g ℓ l K
 | _ => False
theorem nwW_idx (f : Nat → Nat) : ∀ (nw : List Ob) (r i : Nat), i < nw.length → r + i ∈ (nwW f r nw).map (·.1)
 | [], r, i, h => by simp at h
 | q :: nw, r, 0, h => by simp [nwW]
 | q :: nw, r, i + 1, h => by
  have := nwW_idx f nw (r + 1) i (by simpa using h)
  simp only [nwW, List.map_cons, List.mem_cons]
  exact .inr (by rw [show r + (i + 1) = r + 1 + i by omega]; exact this)
theorem gsCallT (E : Env) (T : List Nat) (o : Oper) (rank : Nat) (f : Operand) (args : Array Operand) (ts : Array TypeId) (ho : o.op = .call { callee := .value f, args := args, argTypes := ts }) (ρ : Operand → Option AV) (ℓ : Nat → Option (Option Ob)) (K : Eff → Prop)
  (h0 : gCallT T E rank f args.toList ρ ℓ fun e => subN (touch e) T = true ∧ K e) (s : ASt) (hd : okDst s.n o.dst = true) (hq : ∀ x, x ∈ o.op.operands → ev s.t x = ρ x) (ht : ∀ k, k ∈ T → s.L[k]? = ℓ k) (Z : Nat → Prop) (lb : Lb) (a : Act) (w : World) (hs : St Z lb s a w)
  (K' : Act → World → Prop) (Q : Exit → Act → World → Prop) (hK' : ∀ e, subN (touch e) T = true ∧ K e → ∀ Z' lb' a' w', Stp Z lb w Z' lb' w' → St Z' lb' (s.app o.dst e) a' w' → a'.defers = a.defers → K' a' w') : o.wp E.P a w K' Q := by
 obtain ⟨y, hy, h⟩ := withV_some h0
 clear h0
 have hfm : f ∈ o.op.operands := by simp [ho, Op.operands, Call.operands]
 have ham : ∀ x, x ∈ args.toList → ev s.t x = ρ x := fun x hx => hq x (by simp only [ho, Op.operands, Call.operands]; simp; exact .inr (Array.mem_toList_iff.1 hx))
 have hrun : ∀ {a : Act} {w : World} {g : FuncId} {vs : List Value}, Callable E.P g → a.eval f = .func (.func g) #[] vs.toArray → (execOp a.eval o).run E.P w = .ok (.enter g (args.toList.map a.eval ++ vs).toArray) w := by
  intro a w g vs hc g2
  have hargs : args.map a.eval = (args.toList.map a.eval).toArray := by apply Array.ext'; simp
  simp [execOp, ho, resolve, Deferred.ofValue, g2, invoke, run_callFunc hc, hargs]
 split at h
 ·rename_i g caps
  have hf := ev_rep hs (find_ev hq hfm hy)
  simp only [ARep, Rep] at hf
  obtain ⟨vs, g1, g2⟩ := hf
  obtain ⟨xa, has, h⟩ := withC_some h
  rw [forceA_eq] at h
  unfold lendXT at h
  rw [forceX_eq, dfsSK_eq, forceA_eq, forceB_eq] at h
  obtain ⟨⟨hren, hin, hlent, hfr, hsub⟩, G, r, L', hcall, hpost⟩ := h
  revert hren hin hlent hcall hpost hsub
  generalize dfsS ℓ (own1 ℓ (refAs (appA xa (mapP caps)))) [] = σ at *
  generalize renAs (pos0 σ) (appA xa (mapP caps)) = cargs
  generalize lentObs ℓ (pos0 σ) σ = Lc
  intro hren hin hlent hsub hcall hpost
  have ga := (gatherA_rep hs ham has).append (areps_p.2 g1)
  rw [← mapP_eq, ← appA_eq, ← hren] at ga
  have hnd := freshN_nodup hfr
  have hl' := lentOk_congr (ℓ' := fun k => s.L[k]?) (fun j hj => ht j (subN_mem hsub hj)) hlent
  have hlend := hs.own.lend (rank := rank) hl' hnd
  have hargs := areps_ren (f := atF σ rank) (n := σ.length) (lb' := lbOf lb σ) (fun i x hi hx => by
   have hj : σ[i]? = some σ[i] := by simp [hi]
   rw [atF_lt hj] at hx
   exact lbOf_get σ hj hx) _ _ hin ga
  unfold Oper.wp
  rw [hrun hcall.1 g2, Oper.upon_enter]
  refine (hcall.2.2 Z _ w _ hlend (ltB_of hs.df.1) hargs).mono ?_
  rintro e w' ⟨q, u, Z', lbc', rfl, c1, c2, c3, c4, c5, c6, c7, c8, c9, c10, c11, c12, c13⟩
  obtain ⟨M, nw, hMn, hM, hnw, hK⟩ := afterA_ok (hpost q)
  rw [hMn] at c1
  have hnw' : ∀ i, i < nw.length → s.L[rank + i]? = some none := fun i hi => (ht (rank + i) (subN_mem hK.1 (by
   simp only [touch, List.nil_append, List.map_append, List.mem_append]
   exact .inr (nwW_idx _ nw rank i hi)))).trans (isHole_eq (holesOk_get hnw hi))
  obtain ⟨lb', st, own, hun⟩ := hs.own.back hl' hnd hM hnw' c1 c6 c7 c8 c9 c10 c11 c12 c13 c3 c4 c5
  refine hK' ⟨some (renA (atF σ rank) (r q)), [], zipW (atF σ rank) σ M ++ nwW (atF σ rank) rank nw⟩ (by simpa using hK) Z' lb' _ w' st (hs.put st own hd fun q hq' => ?_) put_df
  cases hq'
  exact arep_unren hun _ u c2
 ·exact h.elim
def disN (T l : List Nat) : Bool := l.all fun x => !elN x T
def disB : Nat → List Nat → List FP → Bool
 | 0, _, _ => true
 | n + 1, T, a :: r => disN T a.rd && (disN T a.wr && disB n T r)
 | _ + 1, _, [] => false
theorem elN_of : ∀ {x : Nat} {l : List Nat}, x ∈ l → elN x l = true
 | x, y :: l, h => by
  simp only [elN]
  split
  ·rfl
  ·rename_i hb
   rcases List.mem_cons.1 h with rfl | h
   ·simp at hb
   ·exact elN_of h
theorem disN_not {T l : List Nat} (h : disN T l = true) {x : Nat} (hx : x ∈ l) : x ∉ T := fun hT => by
 have := (List.all_eq_true.1 h) x hx
 rw [elN_of hT] at this; cases this
theorem disB_get : ∀ {n : Nat} {T : List Nat} {l : List FP}, disB n T l = true → ∀ (i : Nat) a, i < n → l[i]? = some a → (∀ x, x ∈ a.rd → x ∉ T) ∧ ∀ x, x ∈ a.wr → x ∉ T
 | 0, T, l, _, i, a, hi, _ => by omega
 | n + 1, T, [], h, i, a, hi, ha => by simp at ha
 | n + 1, T, b :: r, h, i, a, hi, ha => by
  simp only [disB, Bool.and_eq_true] at h
  cases i with
  | zero =>
   simp only [List.getElem?_cons_zero, Option.some.injEq] at ha
   subst ha
   exact ⟨fun x hx => disN_not h.1 hx, fun x hx => disN_not h.2.1 hx⟩
  | succ i => exact disB_get h.2.2 i a (by omega) (by simpa using ha)
theorem fpsOf_append (ops : List Oper) : ∀ (p : List Oper) (e1 : List (Option Eff)) (r : List Oper) (e2 : List (Option Eff)) (acc : List FP), e1.length = p.length → fpsOf ops (p ++ r) (e1 ++ e2) acc = fpsOf ops r e2 (fpsOf ops p e1 acc)
 | [], [], r, e2, acc, _ => rfl
 | [], _ :: _, _, _, _, h => by simp at h
 | _ :: _, [], _, _, _, h => by simp at h
 | o :: p, e :: e1, r, e2, acc, h => by
  simp only [List.cons_append, fpsOf]
  exact fpsOf_append ops p e1 r e2 _ (by simpa using h)
theorem fpsOf_get (ops : List Oper) : ∀ (l : List Oper) (es : List (Option Eff)) (acc : List FP), es.length = l.length → ∀ (i : Nat) o e, l[i]? = some o → es[i]? = some e → ∃ j : Nat, j < l.length ∧ (fpsOf ops l es acc)[j]? = some (fpOf o (match o.guard with | none => none | some _ => gdst ops o) e)
 | [], es, acc, _, i, o, e, h, _ => by simp at h
 | o' :: l, [], acc, hl, i, o, e, h, _ => by simp at hl
 | o' :: l, e' :: es, acc, hl, i, o, e, h, he => by
  have hl2 : es.length = l.length := by simpa using hl
  cases i with
  | succ i =>
   obtain ⟨j, h1, h2⟩ := fpsOf_get ops l es (fpOf o' (match o'.guard with | none => none | some _ => gdst ops o') e' :: acc) hl2 i o e (by simpa using h) (by simpa using he)
   exact ⟨j, by simp; omega, by simp only [fpsOf]; exact h2⟩
  | zero =>
   simp only [List.getElem?_cons_zero, Option.some.injEq] at h he
   subst h; subst he
   refine ⟨l.length, by simp, ?_⟩
   simp only [fpsOf]
   rw [fpsOf_eq ops l es _ hl2, List.getElem?_append_right (by simp [hl2])]
   simp [hl2]
   cases o'.guard <;> rfl
structure dxQ (b : Bool) (A : Prop) (_ : Tag A := ⟨⟩) : Prop where
 chk : b = true
 run : A
theorem dx_ok {b : Bool} {A : Prop} {t : Tag A} (h : b = true) (hA : A) : dxQ b A t := ⟨h, hA⟩
theorem r_dx {E : Env} {nb : Nat} {Q : Exit → ASt → Prop} {s : ASt} {id : Nat} (T : List Nat) (v0 : AV) (p : List Oper) (dst : Option Tmp) (f : Operand) (args : Array Operand) (ts : Array TypeId) (ty : TypeId) (pos : String) (af : Array Edge) (q : List Oper)
  (h : VX E (p ++ ⟨dst, .call { callee := .value f, args := args, argTypes := ts }, ty, pos, af, none⟩ :: q) p (lenL s.L) { s with L := addL s.L (holesOf (p ++ ⟨dst, .call { callee := .value f, args := args, argTypes := ts }, ty, pos, af, none⟩ :: q)) } [] fun s1 f1 =>
   VX E (p ++ ⟨dst, .call { callee := .value f, args := args, argTypes := ts }, ty, pos, af, none⟩ :: q) q (lenL s.L + holesOf p + slotsOf ⟨dst, .call { callee := .value f, args := args, argTypes := ts }, ty, pos, af, none⟩) (s1.app dst ⟨some v0, [], deads T⟩)
    (fpOf ⟨dst, .call { callee := .value f, args := args, argTypes := ts }, ty, pos, af, none⟩ none (some ⟨some v0, [], deads T⟩) :: f1) fun s2 fps =>
    dxQ (chkB (p ++ ⟨dst, .call { callee := .value f, args := args, argTypes := ts }, ty, pos, af, none⟩ :: q) fps && disB q.length T fps) <| onB (okDst s1.n dst) <| forceI (lenL s.L + holesOf p) (fun rank => gCallT T E rank f args.toList (ev s1.t) (nth s1.L) fun e => subN (touch e) T = true ∧ (subN T (e.wr.map (·.1)) = true ∧ (e.val = some v0 ∧ Q .normal { s2 with L := setAll s2.L e.wr }))) ⟨⟩) :
  awp E.P nb (.region id (p ++ ⟨dst, .call { callee := .value f, args := args, argTypes := ts }, ty, pos, af, none⟩ :: q).toArray true) Q s := by
 refine ⟨fun ρ hρ B Z lb a w hs => ?_⟩
 obtain ⟨o, ho⟩ : ∃ o : Oper, o = ⟨dst, .call { callee := .value f, args := args, argTypes := ts }, ty, pos, af, none⟩ := ⟨_, rfl⟩
 have hog : o.guard = none := by rw [ho]
 have hod : o.dst = dst := by rw [ho]
 have hoo : o.op = .call { callee := .value f, args := args, argTypes := ts } := by rw [ho]
 rw [← ho] at h ⊢
 generalize hX : (⟨some v0, [], deads T⟩ : Eff) = eX at h
 obtain ⟨es1, s1, ht1, h2⟩ := vexec_trace E _ p _ _ _ _ h.run
 obtain ⟨es2, s2, ht2, hcd, h3⟩ := vexec_trace E _ q _ _ _ _ h2.run
 simp only [Bool.and_eq_true] at hcd
 obtain ⟨hc, hdis⟩ := hcd
 obtain ⟨hokd, h4⟩ := onB_some h3
 rw [forceI_eq] at h4
 clear h h2 h3
 have hρ0 : ρ = none ∨ (p ++ o :: q).all rfO = true := hρ.imp (fun h => h) fun h => by simp only [rf, List.toList_toArray] at h; rw [← ho] at h; exact h
 obtain ⟨l, hl⟩ : ∃ l, l = p ++ o :: q := ⟨_, rfl⟩
 rw [← hl] at hρ0
 rw [← hl] at ht1 ht2 hc hdis ⊢
 have hTX : touch eX = T := by rw [← hX]; simp [touch, deads_key]
 have hWX : eX.wr.map (·.1) = T := by rw [← hX]; exact deads_key T
 have hvX : eX.val = some v0 := by rw [← hX]
 obtain ⟨a1, a2, a3⟩ := ht1.get
 obtain ⟨b1, b2, b3⟩ := ht2.get
 obtain ⟨sI, hsI⟩ : ∃ sI : ASt, sI = { s with L := addL s.L (holesOf l) } := ⟨_, rfl⟩
 rw [← hsI] at a2 a3
 have hn : l[p.length]? = some o := by rw [hl]; simp
 have hnl : p.length < l.length := by rw [hl]; simp
 have hlen : ∀ e, (es1 ++ some e :: es2).length = l.length := fun e => by rw [hl]; simp [a1, b1]
 have split : ∀ (e : Eff) (S : Nat → Bool), resS S l (es1 ++ some e :: es2) sI = resS (fun j => S (j + 1 + p.length)) q es2 (match S p.length with | true => (resS S p es1 sI).eff o (some e) | false => resS S p es1 sI) := by
  intro e S
  rw [hl, resS_append _ _ _ _ _ _ a1, resS]
  simp only [Nat.zero_add]
  cases S p.length <;> rfl
 have gp : ∀ e, (es1 ++ some e :: es2)[p.length]? = some (some e) := fun e => by rw [← a1]; simp
 have hcX : Compat l (es1 ++ some eX :: es2) := by
  refine compat_of (hlen eX) ?_
  rw [show fpsOf l l (es1 ++ some eX :: es2) [] = fpsOf l (p ++ o :: q) (es1 ++ some eX :: es2) [] from by rw [← hl], fpsOf_append _ _ _ _ _ _ a1, fpsOf, hog]
  exact hc
 have other : ∀ (e e' : Eff) (i : Nat) x, i ≠ p.length → (es1 ++ some e :: es2)[i]? = some x → (es1 ++ some e' :: es2)[i]? = some x := by
  intro e e' i x hi hx
  rcases Nat.lt_or_ge i es1.length with h | h
  ·rw [List.getElem?_append_left h] at hx ⊢; exact hx
  ·rw [List.getElem?_append_right h] at hx ⊢
   obtain ⟨k, hk⟩ : ∃ k, i - es1.length = k + 1 := ⟨i - es1.length - 1, by omega⟩
   rw [hk] at hx ⊢
   simpa using hx
 have compatE : ∀ e : Eff, subN (touch e) T = true → Compat l (es1 ++ some e :: es2) := by
  intro e hsub
  have key : ∀ (i : Nat) oi ei, l[i]? = some oi → (es1 ++ some e :: es2)[i]? = some ei → ∃ ei', (es1 ++ some eX :: es2)[i]? = some ei' ∧ ∀ x, (Wr oi ei x → Wr oi ei' x) ∧ (Tc l oi ei x → Tc l oi ei' x) := by
   intro i oi ei hi hei
   by_cases hin : i = p.length
   ·subst hin
    rw [gp] at hei
    simp only [Option.some.injEq] at hei
    subst hei
    refine ⟨some eX, gp eX, fun x => ?_⟩
    cases x with
    | t d => exact ⟨fun h => h, fun h => h⟩
    | o k =>
     constructor
     ·rintro ⟨e', he', hk⟩
      cases he'
      exact ⟨eX, rfl, by rw [hWX]; exact subN_mem hsub (by simp only [touch, List.mem_append]; exact .inr hk)⟩
     ·rintro ⟨e', he', hk⟩
      cases he'
      exact ⟨eX, rfl, by rw [hTX]; exact subN_mem hsub hk⟩
   ·exact ⟨ei, other e eX i ei hin hei, fun x => ⟨fun h => h, fun h => h⟩⟩
  refine ⟨hcX.back, fun i j oi oj ei ej hji hi hj hei hej hx => ?_⟩
  obtain ⟨ei', g1, g2⟩ := key i oi ei hi hei
  obtain ⟨ej', g3, g4⟩ := key j oj ej hj hej
  obtain ⟨x, hx⟩ := hx
  refine hcX.conf i j oi oj ei' ej' hji hi hj g1 g3 ⟨x, hx.imp (fun h => ⟨(g4 x).1 h.1, (g2 x).2 h.2⟩) fun h => ⟨(g2 x).1 h.1, (g4 x).2 h.2⟩⟩
 -- the operations behind the call, wherever its objects stand
 have hdq : ∀ (i : Nat) oi (e : Eff), q[i]? = some oi → es2[i]? = some (some e) → ∀ k, k ∈ touch e → k ∉ T := by
  intro i oi e h1 h2 k hk
  obtain ⟨j, g1, g2⟩ := fpsOf_get l q es2 (fpOf o none (some eX) :: fpsOf l p es1 []) b1 i oi (some e) h1 h2
  obtain ⟨g3, g4⟩ := disB_get hdis j _ g1 g2
  simp only [touch, List.mem_append] at hk
  rcases hk with hk | hk
  ·exact g3 k hk
  ·exact g4 k hk
 have apT : ∀ (e : Eff), e.val = some v0 → subN (touch e) T = true → ∀ x : Loc, (∀ k, x = .o k → k ∉ T) → (s1.app dst e).at x = (s1.app dst eX).at x := by
  intro e hv hsub x hx
  cases x with
  | t d => simp only [ASt.at, ASt.app, hv, hvX]
  | o k =>
   have hk := hx k rfl
   simp only [ASt.at, ASt.app]
   rw [setAll_other _ _ _ (fun h => hk (subN_mem hsub (by simp only [touch, List.mem_append]; exact .inr h))), setAll_other _ _ _ (by rw [hWX]; exact hk)]
 have hlenA : ∀ (e : Eff), (s1.app dst e).L.length = s1.L.length := fun e => by simp only [ASt.app]; exact setAll_length _ _
 have qT : ∀ (e : Eff), e.val = some v0 → subN (touch e) T = true → ∀ (S : Nat → Bool) (x : Loc), (∀ k, x = .o k → k ∉ T) → (resS S q es2 (s1.app dst e)).at x = (resS S q es2 (s1.app dst eX)).at x := by
  intro e hv hsub S x hx
  exact resS_agree x q es2 S S _ _ (by rw [hlenA, hlenA]) (apT e hv hsub x hx) fun _ _ _ _ _ _ => rfl
 have getE : ∀ (e : Eff), e.val = some v0 → subN (touch e) T = true → ∀ (i : Nat) o' e', i ≠ p.length → l[i]? = some o' → (es1 ++ some e :: es2)[i]? = some e' → ∃ s₁, Rec E l o' s₁ e' ∧ Same s₁ (resS (fun j => decide (j < i)) l (es1 ++ some e :: es2) sI) := by
  intro e hv hsub i o' e' hin hi he'
  rcases Nat.lt_or_gt_of_ne hin with hlt | hgt
  ·have hi' : p[i]? = some o' := by rw [hl, List.getElem?_append_left hlt] at hi; exact hi
   have he2 : es1[i]? = some e' := by rw [List.getElem?_append_left (by omega)] at he'; exact he'
   obtain ⟨s₁, g1, g2⟩ := a3 i o' e' hi' he2
   refine ⟨s₁, g1, ?_⟩
   rw [split]
   rw [decide_eq_false (by omega)]
   rw [resS_none _ _ _ _ fun j => decide_eq_false (by omega)]
   exact g2
  ·obtain ⟨k, hk⟩ : ∃ k, i = k + 1 + p.length := ⟨i - 1 - p.length, by omega⟩
   have hi' : q[k]? = some o' := by
    rw [hl, List.getElem?_append_right (by omega), show i - p.length = k + 1 by omega] at hi
    simpa using hi
   have he2 : es2[k]? = some e' := by
    rw [List.getElem?_append_right (by omega), show i - es1.length = k + 1 by omega] at he'
    simpa using he'
   obtain ⟨s₁, g1, g2⟩ := b3 k o' e' hi' he2
   have eqr : resS (fun j => decide (j < i)) l (es1 ++ some e :: es2) sI = resS (fun j => decide (j < k)) q es2 ((resS (fun j => decide (j < i)) p es1 sI).eff o (some e)) := by
    rw [split, decide_eq_true (by omega)]
    congr 1
    funext j
    by_cases h : j < k
    ·rw [decide_eq_true h, decide_eq_true (by omega)]
    ·rw [decide_eq_false h, decide_eq_false (by omega)]
   have hpre : Same s1 (resS (fun j => decide (j < i)) p es1 sI) := by
    refine a2.trans (same_of_at (by rw [(resS_len _ _ _ _).2, (resS_len _ _ _ _).2]) fun x => resS_agree x p es1 _ _ _ _ rfl rfl fun j oj ej h1 _ _ => ?_)
    have : j < p.length := (List.getElem?_eq_some_iff.1 h1).1
    rw [decide_eq_true (by omega)]
   have hsm : Same (resS (fun j => decide (j < k)) q es2 (s1.app dst e)) (resS (fun j => decide (j < i)) l (es1 ++ some e :: es2) sI) := by
    rw [eqr]
    refine resS_same _ _ _ _ _ ?_
    have := hpre.eff o (some e)
    rw [show s1.eff o (some e) = s1.app dst e from by rw [← hod]; rfl] at this
    exact this
   refine ⟨resS (fun j => decide (j < k)) q es2 (s1.app dst e), ⟨?_, ?_, ?_⟩, hsm⟩
   ·have h1 := g1.dst
    rw [g2.1, (resS_len _ _ _ _).2] at h1
    rw [(resS_len _ _ _ _).2]; exact h1
   ·have ht : ∀ d, tget (resS (fun j => decide (j < k)) q es2 (s1.app dst e)).t d = tget s₁.t d := fun d => by
     have := qT e hv hsub (fun j => decide (j < k)) (.t d) (fun k h => by cases h)
     simp only [ASt.at, Sum.inl.injEq] at this
     rw [this, ← g2.2.1 d]
    rcases g1.guard with h | ⟨d, want, b, h1, h2, h3⟩ | ⟨d, want, h1, h2, h3⟩
    ·exact .inl h
    ·exact .inr (.inl ⟨d, want, b, h1, (ht d).trans h2, h3⟩)
    ·exact .inr (.inr ⟨d, want, h1, (ht d).trans h2, h3⟩)
   ·intro e'' hee s'' hd2 hq2 hk2
    refine g1.run e'' hee s'' hd2 (fun x hx => ?_) fun kk hkk => ?_
    ·rw [hq2 x hx]
     have hat : ∀ d, (resS (fun j => decide (j < k)) q es2 (s1.app dst e)).at (.t d) = s₁.at (.t d) := fun d => (qT e hv hsub _ (.t d) (fun k h => by cases h)).trans (g2.at _).symm
     cases x with
     | tmp d => simpa [ASt.at, ev] using hat d
     | const v => cases v <;> rfl
     | _ => rfl
    ·rw [hk2 kk hkk]
     subst hee
     have hat := (qT e hv hsub (fun j => decide (j < k)) (.o kk) (fun k' h => by cases h; exact hdq k o' e'' hi' he2 kk hkk)).trans (g2.at _).symm
     simpa [ASt.at] using hat
 have hs1 := hs.toSt.addHoles (holesOf l)
 rw [← hsI] at hs1
 have hext := (hs.own.addHoles (holesOf l)).2 nb
 refine wpIn_region_any E.mixed ?_
 have hd : St Z (lb ++ List.replicate (holesOf l) none) sI a { w with drawn := w.drawn + 1 } :=
  ⟨hs1.own.heap rfl rfl rfl (od_drew _), fun d x hx => by
   obtain ⟨u, g1, g2⟩ := hs1.tm d x hx
   exact ⟨u, g1, (stp_heap (lb := lb ++ List.replicate (holesOf l) none) rfl rfl rfl (od_drew _) : Stp Z _ w Z _ { w with drawn := w.drawn + 1 }).arep g2⟩, hs1.df.stp (stp_heap rfl rfl rfl (od_drew _)), hs1.sz⟩
 have st0 : Stp Z (lb ++ List.replicate (holesOf l) none) w Z (lb ++ List.replicate (holesOf l) none) { w with drawn := w.drawn + 1 } := stp_heap rfl rfl rfl (od_drew _)
 have hget0 : ∀ i, (Array.replicate l.toArray.size false).getD i false = false := by
  intro i
  simp only [Array.getD_eq_getD_getElem?, Array.getElem?_replicate]
  split <;> rfl
 have hsubX : subN (touch eX) T = true := by rw [hTX]; exact subN_of fun x hx => elN_of hx
 refine any_soundX (d0 := a.defers) hρ0 (l := l) (es := es1 ++ some eX :: es2) (s0 := sI) (s' := resS (fun _ => true) l (es1 ++ some eX :: es2) sI) (Z0 := Z) (lb0 := lb ++ List.replicate (holesOf l) none) (w0 := w) p.length false (by simp) (hlen eX) (Same.refl _) (getE eX hvX hsubX) hcX (by intro h; cases h) ?_ hnl l.toArray.size _ (by simp) (fun i j hi _ => by rw [hget0] at hi; simp at hi) (hget0 _) ?_ st0 (by rw [resS_none _ _ _ _ hget0]; exact hd) rfl
 ·intro _ fuel listed hls hcl hunf hbef hlater hcnt Z1 lb1 a1 w1 st1 hs2 hd1
  unfold wpOpIn
  rw [List.getElem?_toArray, hn]
  simp only
  rw [if_pos (by simp [Region.wanted, hog])]
  refine wp_in (rf_op hρ0 (by rw [hl]; simp)) ?_
  have agree : ∀ x, Tc l o (some eX) x → (resS (fun j => listed.getD j false) l (es1 ++ some eX :: es2) sI).at x = s1.at x := fun x hx => by
   rw [resS_tc hcX hn (gp eX) hunf hbef hlater hx, a2.at x, split, decide_eq_false (by omega)]
   rw [resS_none _ _ _ _ fun j => decide_eq_false (by omega)]
   refine resS_agree x p es1 _ _ _ _ rfl rfl fun j oj ej h1 _ _ => ?_
   have : j < p.length := (List.getElem?_eq_some_iff.1 h1).1
   rw [decide_eq_true this]
  have hnn : (resS (fun j => listed.getD j false) l (es1 ++ some eX :: es2) sI).n = s1.n := by rw [(resS_len _ _ _ _).2, a2.1, (resS_len _ _ _ _).2]
  refine gsCallT E T o (lenL s.L + holesOf p) f args ts hoo _ _ _ h4 _ (by rw [hnn, hod]; exact hokd) (fun x hx => ?_) (fun k hk => ?_) Z1 lb1 a1 w1 hs2 _ _ fun e he Z2 lb2 a2' w2 st2 hs3 hd2 => ?_
  ·cases x with
   | tmp d =>
    have := agree (.t d) (.inr (.inl (by simpa using hx)))
    simpa [ASt.at, ev] using this
   | const v => cases v <;> rfl
   | _ => rfl
  ·have := agree (.o k) ⟨eX, rfl, by rw [hTX]; exact hk⟩
   rw [nth_eq]
   simpa [ASt.at] using this
  ·obtain ⟨hsub, hback, hv, hK⟩ := he
   have hcE := compatE e hsub
   have e1 : ∀ listed : Array Bool, listed.getD p.length false = false → resS (fun j => listed.getD j false) l (es1 ++ some eX :: es2) sI = resS (fun j => listed.getD j false) l (es1 ++ some e :: es2) sI := fun listed hu => by
    rw [split, split, hu]
   rw [e1 listed hunf, show (resS (fun j => listed.getD j false) l (es1 ++ some e :: es2) sI).app o.dst e = (resS (fun j => listed.getD j false) l (es1 ++ some e :: es2) sI).eff o (some e) from rfl] at hs3
   have hset : ∀ j, (listed.setIfInBounds p.length true).getD j false = true ↔ (j = p.length ∨ listed.getD j false = true) := by
    intro j
    by_cases hji : j = p.length
    ·subst hji
     have : p.length < listed.size := by omega
     simp [Array.getD, this]
    ·simp only [hji, false_or, Array.getD_eq_getD_getElem?, Array.getElem?_setIfInBounds_ne (fun hh => hji hh.symm)]
   refine any_soundX (d0 := a.defers) hρ0 (l := l) (es := es1 ++ some e :: es2) (s0 := sI) (s' := { s2 with L := setAll s2.L e.wr }) (Z0 := Z) (lb0 := lb ++ List.replicate (holesOf l) none) (w0 := w) p.length true (by simp) (hlen e) ?_ (getE e hv hsub) hcE (fun _ Z' lb' a' w' st hs' hdf => ⟨Z', lb', _, hext.trans (st.ext nb), hs.to hs' hdf st.size, hK⟩) (by intro h; cases h) hnl fuel _ (by simpa using hls) (fun i j hi hb => ?_) ((hset _).2 (.inl rfl)) hcnt (st1.trans st2) ((resS_next hcE hls hnl hn (gp e) hbef hlater).st hs3) (hd2.trans hd1)
   ·refine same_of_at ?_ fun x => ?_
    ·rw [(resS_len _ _ _ _).2]
     show s2.n = sI.n
     rw [b2.1, (resS_len _ _ _ _).2]
     show s1.n = _
     rw [a2.1, (resS_len _ _ _ _).2]
    ·have hall : resS (fun _ => true) l (es1 ++ some e :: es2) sI = resS (fun _ => true) q es2 ((resS (fun _ => true) p es1 sI).eff o (some e)) := split e _
     have h1 : Same (resS (fun _ => true) q es2 (s1.app dst e)) (resS (fun _ => true) l (es1 ++ some e :: es2) sI) := by
      rw [hall]
      refine resS_same _ _ _ _ _ ?_
      have := a2.eff o (some e)
      rw [show s1.eff o (some e) = s1.app dst e from by rw [← hod]; rfl] at this
      exact this
     rw [← h1.at x]
     have h2 := b2.at x
     by_cases hx : ∃ k, x = .o k ∧ k ∈ T
     ·obtain ⟨k, rfl, hkT⟩ := hx
      have h3 : (resS (fun _ => true) q es2 (s1.app dst e)).at (.o k) = (s1.app dst e).at (.o k) := by
       have := resS_agree (.o k) q es2 (fun _ => true) (fun _ => false) (s1.app dst e) (s1.app dst e) rfl rfl fun j oj ej g1 g2 hw => by
        obtain ⟨e', rfl, hk⟩ := hw
        exact absurd hkT (hdq j oj e' g1 g2 k (by simp only [touch, List.mem_append]; exact .inr hk))
       rw [this, resS_none _ _ _ _ fun _ => rfl]
      rw [h3]
      simp only [ASt.at, ASt.app]
      have hlen2 : s2.L.length = s1.L.length := by
       rw [b2.L, (resS_len _ _ _ _).1, hlenA]
      rw [setAll_write e.wr s2.L s1.L k hlen2 (subN_mem hback hkT)]
     ·have hx' : ∀ k, x = .o k → k ∉ T := fun k hk hT => hx ⟨k, hk, hT⟩
      rw [qT e hv hsub _ x hx', ← h2]
      cases x with
      | t d => rfl
      | o k =>
       simp only [ASt.at]
       rw [setAll_other _ _ _ (fun h => hx' k rfl (subN_mem hsub (by simp only [touch, List.mem_append]; exact .inr h)))]
   ·rw [hset] at hi ⊢
    rcases hi with rfl | hi
    ·exact .inr (hbef j hb)
    ·exact .inr (hcl i j hi hb)
 ·refine Nat.le_trans (List.length_filter_le _ _) ?_
  simp
def dxK2 (E : Env) (T : List Nat) (v0 : AV) (ops q : List Oper) (rank : Nat) (dst : Option Tmp) (f : Operand) (args : List Operand) (Q : Exit → ASt → Prop) (s1 : ASt) (s2 : ASt) (fps : List FP) : Prop :=
 dxQ (chkB ops fps && disB q.length T fps) <| onB (okDst s1.n dst) <| forceI rank (fun rank => gCallT T E rank f args (ev s1.t) (nth s1.L) fun e => subN (touch e) T = true ∧ (subN T (e.wr.map (·.1)) = true ∧ (e.val = some v0 ∧ Q .normal { s2 with L := setAll s2.L e.wr }))) ⟨⟩
def dxK (E : Env) (T : List Nat) (v0 : AV) (ops q : List Oper) (rank r1 : Nat) (dst : Option Tmp) (f : Operand) (args : List Operand) (oX : Oper) (Q : Exit → ASt → Prop) (s1 : ASt) (f1 : List FP) : Prop :=
 VX E ops q r1 (s1.app dst ⟨some v0, [], deads T⟩) (fpOf oX none (some ⟨some v0, [], deads T⟩) :: f1) (dxK2 E T v0 ops q rank dst f args Q s1)
@[congr] theorem dxQ_congr {b b' : Bool} {A : Prop} {t : Tag A} (h : b = b') : dxQ b A t = dxQ b' A t := by rw [h]
attribute [go_sem ↓] gCallT lendXT
attribute [go_sem] subN touch dxK dxK2
end Go.Ab
namespace Go.Ab
variable [Glob]
structure LoopHd where
 fn : FuncId
 ps : Array Tmp
 assign : Code
 body : Code
 D : Nat
def recL (h : LoopHd) (st : LoopState) (pend : Option Code) (tm : Array Value) : Loop := { state := st, pending := pend, fn := h.fn, tmps := tm, params := h.ps, assign := h.assign, body := h.body, defers := h.D }
def recO (h : LoopHd) (st : LoopState) (pend : Option Code) (tm : Array Value) : Obj := .loop (recL h st pend tm)
def pushT : List Tmp → List AV → List (Nat × Option AV) → List (Nat × Option AV)
 | p :: ps, y :: ys, t => pushT ps ys ((p, some y) :: t)
 | _, _, t => t
def zipT : List Nat → List AV → List (Nat × Option AV)
 | d :: ds, x :: xs => (d, some x) :: zipT ds xs
 | _, _ => []
def keepD (t : List (Nat × Option AV)) : List Nat → List Nat
 | [] => []
 | d :: r => match tget t d with
  | some _ => d :: keepD t r
  | none => keepD t r
def keepV (t : List (Nat × Option AV)) : List Nat → List AV
 | [] => []
 | d :: r => match tget t d with
  | some x => x :: keepV t r
  | none => keepV t r
def ltAll (n : Nat) : List Nat → Bool
 | [] => true
 | p :: ps => match Nat.blt p n with
  | true => ltAll n ps
  | false => false
theorem ltAll_mem {n : Nat} : ∀ {l : List Nat}, ltAll n l = true → ∀ p, p ∈ l → p < n
 | [], _, p, hp => by simp at hp
 | q :: l, h, p, hp => by
  simp only [ltAll] at h
  split at h
  ·rename_i hq
   rcases List.mem_cons.1 hp with rfl | hp
   ·simpa [Nat.blt_eq] using hq
   ·exact ltAll_mem h p hp
  ·simp at h
def TmOk (Z : Nat → Prop) (lb : Lb) (w : World) (n : Nat) (t : List (Nat × Option AV)) (tm : Array Value) : Prop := tm.size = n ∧ ∀ d x, tget t d = some x → ∃ u, tm[d]? = some u ∧ ARep Z lb w x u
theorem tmOk_zip {Z : Nat → Prop} {lb : Lb} {w : World} {n : Nat} {tm : Array Value} (hn : tm.size = n) : ∀ {ds : List Nat} {cs : List AV} {vs : List Value}, AReps Z lb w cs vs →
  (∀ (i : Nat) d u, ds[i]? = some d → vs[i]? = some u → tm[d]? = some u) → TmOk Z lb w n (zipT ds cs) tm
 | [], cs, vs, _, _ => ⟨hn, fun d x h => by simp [zipT, tget] at h⟩
 | d :: ds, [], vs, _, _ => ⟨hn, fun d x h => by simp [zipT, tget] at h⟩
 | d :: ds, c :: cs, vs, hr, h => by
  simp only [AReps] at hr
  obtain ⟨u, us, rfl, h1, h2⟩ := hr
  have ih := tmOk_zip hn h2 (ds := ds) fun i d' u' hd hu => h (i + 1) d' u' (by simpa using hd) (by simpa using hu)
  refine ⟨hn, fun e x hx => ?_⟩
  simp only [zipT, tget] at hx
  split at hx
  ·rename_i hb
   have hb := Nat.eq_of_beq_eq_true hb
   subst hb
   simp only [Option.some.injEq] at hx
   subst hx
   exact ⟨u, h 0 d u rfl rfl, h1⟩
  ·exact ih.2 e x hx
theorem tmOk_push {Z : Nat → Prop} {lb : Lb} {w : World} {n : Nat} : ∀ {ps : List Tmp} {gs : List AV} {us : List Value} {t : List (Nat × Option AV)} {tm : Array Value}, TmOk Z lb w n t tm → AReps Z lb w gs us → (∀ p, p ∈ ps → p < n) → ps.length = gs.length →
  TmOk Z lb w n (pushT ps gs t) ((ps.zip us).foldl (fun tm (x : Tmp × Value) => tm.setIfInBounds x.1 x.2) tm)
 | [], gs, us, t, tm, h, _, _, _ => by simpa [pushT] using h
 | p :: ps, [], us, t, tm, h, _, _, hl => by simp at hl
 | p :: ps, a :: gs, us, t, tm, h, hr, hp, hl => by
  simp only [AReps] at hr
  obtain ⟨u, us', rfl, h1, h2⟩ := hr
  simp only [pushT, List.zip_cons_cons, List.foldl_cons]
  refine tmOk_push ⟨by simp [h.1], fun d x hx => ?_⟩ h2 (fun q hq => hp q (List.mem_cons_of_mem _ hq)) (by simpa using hl)
  simp only [tget] at hx
  have hpn := hp p List.mem_cons_self
  split at hx
  ·rename_i hb
   have hb := Nat.eq_of_beq_eq_true hb
   subst hb
   simp only [Option.some.injEq] at hx
   subst hx
   exact ⟨u, by simp [h.1, hpn], h1⟩
  ·rename_i hb
   have hne : p ≠ d := fun e => by subst e; simp at hb
   obtain ⟨u', k1, k2⟩ := h.2 d x hx
   exact ⟨u', by rw [Array.getElem?_setIfInBounds_ne hne]; exact k1, k2⟩
theorem keep_zip {Z : Nat → Prop} {lb : Lb} {s : ASt} {a : Act} {w : World} (hs : St Z lb s a w) : ∀ (keep : List Nat), ∃ vs, AReps Z lb w (keepV s.t keep) vs ∧ ∀ (i : Nat) d u, (keepD s.t keep)[i]? = some d → vs[i]? = some u → a.tmps[d]? = some u
 | [] => ⟨[], rfl, fun i d u h => by simp [keepD] at h⟩
 | d :: r => by
  obtain ⟨vs, h1, h2⟩ := keep_zip hs r
  simp only [keepV, keepD]
  cases hx : tget s.t d with
  | none => exact ⟨vs, h1, h2⟩
  | some x =>
   obtain ⟨u, k1, k2⟩ := hs.tm d x hx
   refine ⟨u :: vs, by simp only [AReps]; exact ⟨u, vs, rfl, k2, h1⟩, fun i e v hi hv => ?_⟩
   cases i with
   | zero => simp at hi hv; subst hi; subst hv; exact k1
   | succ i => exact h2 i e v (by simpa using hi) (by simpa using hv)
theorem putObj_at {w : World} {l : Nat} {o o' : Obj} (h : w.heap[l]? = some o) : (w.putObj l o').heap[l]? = some o' := World.putObj_heap_same (heap_lt h)
theorem stp_rec {Z : Nat → Prop} {lb : Lb} {w : World} {k l : Nat} {r r' : Loop} (hz : ¬ Z l) (hk : lb[k]? = some (some (some l))) (h : w.heap[l]? = some (.loop r)) : Stp Z lb w Z lb (w.putObj l (.loop r')) where
 os := rfl
 tape := rfl
 output := ⟨rfl, fun _ => Nat.le_refl _⟩
 size := by simp
 keep := fun x hx => World.putObj_heap_other fun e => by subst e; exact hz hx
 z1 := fun _ h => h
 z2 := fun _ h _ => .inl h
 bs := fun x _ => by
  by_cases e : x = l
  ·subst e; unfold bsize; rw [putObj_at h, h]
  ·unfold bsize; rw [World.putObj_heap_other e]
 hp := fun x _ hn => World.putObj_heap_other fun e => by subst e; exact hn k hk
 le := fun _ _ h => h
 fresh := fun i _ h => .inl ⟨i, h⟩
 len := rfl
theorem Own.putRec {Z : Nat → Prop} {lb : Lb} {L : List (Option Ob)} {w : World} (h : Own Z lb L w) {k l n : Nat} {hd : LoopHd} {st st' : LoopState} {pe pe' : Option Code} {ds : List Nat} {cs : List AV} (hk : L[k]? = some (some (.lp l (recO hd st pe) n ds cs))) :
  ∃ tm vs, lb[k]? = some (some (some l)) ∧ ¬ Z l ∧ w.heap[l]? = some (recO hd st pe tm) ∧ tm.size = n ∧ AReps Z lb w cs vs ∧ (∀ (i : Nat) d u, ds[i]? = some d → vs[i]? = some u → tm[d]? = some u) ∧
   Stp Z lb w Z lb (w.putObj l (recO hd st' pe' tm)) ∧ Own Z lb (L.set k (some (.lp l (recO hd st' pe') n ds cs))) (w.putObj l (recO hd st' pe' tm)) := by
 obtain ⟨x, h1, h2⟩ := h.obj k _ hk
 cases x with
 | none => exact h2.elim
 | some b =>
  obtain ⟨g1, g2, rfl, vs, tm, g3, g4, g5, g6⟩ := h2
  have st0 : Stp Z lb w Z lb (w.putObj b (recO hd st' pe' tm)) := stp_rec g1 h1 g5
  refine ⟨tm, vs, h1, g1, g5, g4, g3, g6, st0, h.upd st0 ?_ h1 ⟨g1, by simpa using g2, rfl, vs, tm, st0.areps g3, g4, putObj_at g5, g6⟩ ?_ (fun i _ hi => h.hole i hi) fun x hx => by have := h.zlt.lt x hx; simpa using this⟩
  ·rcases Nat.lt_or_ge k L.length with h' | h'
   ·exact h'
   ·simp [List.getElem?_eq_none h'] at hk
  ·intro i o1 b1 hik hi hl1 hb1
   have hne : b1 ≠ b := fun hh => by subst hh; exact hik (h.inj i k o1 _ b1 hi hk hl1 trivial hb1 h1)
   obtain ⟨x, h3, h4⟩ := h.obj i o1 hi
   rw [hb1] at h3
   simp only [Option.some.injEq] at h3
   subst h3
   exact ⟨World.putObj_heap_other hne, (h4.block hl1).1, fun hh => hne (by simpa using hh.symm)⟩
theorem Ext.lbLe {nb : Nat} {Z Z' : Nat → Prop} {lb lb' : Lb} {w w' : World} (h : Ext nb Z lb w Z' lb' w') (hl : lb.length ≤ nb) : LbLe lb lb' := fun i x hx => by
 refine h.kp i x ?_ hx
 rcases Nat.lt_or_ge i lb.length with h' | h'
 ·omega
 ·simp [List.getElem?_eq_none h'] at hx
theorem Ext.le {nb nb' : Nat} {Z Z' : Nat → Prop} {lb lb' : Lb} {w w' : World} (h : Ext nb' Z lb w Z' lb' w') (hl : lb.length ≤ nb') : Ext nb Z lb w Z' lb' w' :=
 ⟨h.os, h.tape, h.output, h.size, h.keep, h.z1, h.z2, h.bs, h.hp, h.fresh, fun i x _ hx => h.lbLe hl i x hx⟩
theorem lenL_eq : ∀ l : List (Option Ob), lenL l = l.length
 | [] => rfl
 | _ :: l => by simp [lenL, lenL_eq l]
def leftBy : Exit → Option (Bool × LoopState × Option Code)
 | .normal => some (true, .ready, none)
 | .ret => some (false, .done, some .ret)
 | .exit i => some (false, .done, some (.exit i))
 | _ => none
structure roundQ2 (E : Env) (k l n : Nat) (hd : LoopHd) (ds : List Nat) (cs : List AV) (dd : Nat) (s1 : ASt) (K : ASt → Prop) (ex : Exit) (s3 : ASt) (_ : Tag K := ⟨⟩) : Prop where
 run : nth s3.L k = some (some (.lp l (recO hd .busy none) n ds cs)) ∧ onF (leftBy ex) fun r => K { n := s1.n, t := (dd, some (.p (.v (.bool r.1)))) :: s1.t, L := setL s3.L k (some (.lp l (recO hd r.2.1 r.2.2) n ds cs)) }
structure roundQ1 (E : Env) (k l n : Nat) (hd : LoopHd) (ds : List Nat) (cs : List AV) (dd : Nat) (s1 : ASt) (K : ASt → Prop) (ex : Exit) (s2 : ASt) (_ : Tag K := ⟨⟩) : Prop where
 run : ex = .normal ∧ nth s2.L k = some (some (.lp l (recO hd .ready none) n ds cs)) ∧ awp E.P (lenL s1.L) hd.body (roundQ2 E k l n hd ds cs dd s1 K) { n := s2.n, t := s2.t, L := setL s2.L k (some (.lp l (recO hd .busy none) n ds cs)) }
structure yieldK (E : Env) (k l n : Nat) (hd : LoopHd) (ds : List Nat) (cs : List AV) (d0 dd : Nat) (args : List Operand) (K : ASt → Prop) (s1 : ASt) (_ : Tag K := ⟨⟩) : Prop where
 run : (tget s1.t d0 = some (.p (.v (.func (.yield l) #[] #[]))) ∧ nth s1.L k = some (some (.lp l (recO hd .ready none) n ds cs)) ∧ rf hd.assign = true ∧ rf hd.body = true ∧ Nat.blt dd s1.n = true ∧ ltAll n hd.ps.toList = true) ∧
  withC (gatherA (ev s1.t) args) fun gs => hd.ps.toList.length = gs.length ∧ awp E.P (lenL s1.L) hd.assign (roundQ1 E k l n hd ds cs dd s1 K) ⟨n, pushT hd.ps.toList gs (zipT ds cs), s1.L⟩
theorem wpIn_yield {E : Env} {ρ : Option Nat} {k l n : Nat} {hd : LoopHd} {ds : List Nat} {cs : List AV} {d0 dd : Nat} {o : Oper} {args : Array Operand} {ts : Array TypeId} (ho : o.op = .call { callee := .value (.tmp d0), args := args, argTypes := ts }) (hdd : o.dst = some dd)
  {K : ASt → Prop} {s1 : ASt} (h : yieldK E k l n hd ds cs d0 dd args.toList K s1) {Z : Nat → Prop} {lb : Lb} {a : Act} {w : World} (hs : St Z lb s1 a w) {K' : Act → World → Prop} {Q : Exit → Act → World → Prop}
  (hK : ∀ Z' lb' a' w' s', Ext (lenL s1.L) Z lb w Z' lb' w' → St Z' lb' s' a' w' → a'.defers = a.defers → K s' → K' a' w') : o.wpIn (wd ρ) 0 E.P a w K' Q := by
 obtain ⟨⟨hy, hL, hr1, hr2, hdn, hps⟩, hg⟩ := h.run
 obtain ⟨gs, has, hlen, haw⟩ := withC_some hg
 refine ⟨fun _ _ => trivial, ?_⟩
 rw [nth_eq] at hL
 obtain ⟨tm, vs, k1, k2, k3, k4, k5, k6, -, -⟩ := hs.own.putRec (st' := .busy) (pe' := none) hL
 have hvals := gatherA_rep (ρ := ev s1.t) hs (fun _ _ => rfl) has
 have hal : (args.map a.eval).size = hd.ps.size := by
  rw [Array.size_map, ← Array.length_toList, ← Array.length_toList, hlen]
  have := hvals.length
  simpa using this
 have hf : a.eval (.tmp d0) = .func (.yield l) #[] #[] := rep_v (ev_rep hs (x := .tmp d0) hy)
 have hsem : (o.semAt (wd ρ).round a.eval) = execOp a.eval o := Oper.semAt_eq _ _ _ fun c hc => by rw [ho] at hc; cases hc
 have hrun := run_yield (P := E.P) (args := args.map a.eval) (r := recL hd .ready none tm) k3 hal
 have hexec : (execOp a.eval o).run E.P w = .ok (.round l hd.fn ((hd.ps.zip (args.map a.eval)).foldl (fun tmps (t, a) => tmps.setIfInBounds t a) tm) hd.assign hd.body) w := by
  simp only [execOp, ho, resolve, Deferred.ofValue, hf, Sem.run_bind, Sem.run_pure, Result.andThen_ok, invoke, Array.append_empty]
  simpa [recL] using hrun
 rw [hsem, hexec, Oper.uponIn_round]
 refine ⟨fun hh => by simp [wd, Fence.wide] at hh, ?_⟩
 have hfold : (hd.ps.zip (args.map a.eval)).foldl (fun tmps (x : Tmp × Value) => tmps.setIfInBounds x.1 x.2) tm = (hd.ps.toList.zip (args.toList.map a.eval)).foldl (fun tm (x : Tmp × Value) => tm.setIfInBounds x.1 x.2) tm := by
  rw [← Array.foldl_toList, Array.toList_zip, Array.toList_map]
 have htm : TmOk Z lb w n (pushT hd.ps.toList gs (zipT ds cs)) ((hd.ps.zip (args.map a.eval)).foldl (fun tmps (t, a) => tmps.setIfInBounds t a) tm) := by
  have := tmOk_push (tmOk_zip k4 k5 k6) hvals (ltAll_mem hps) hlen
  rw [← hfold] at this
  exact this
 have hlt := hs.df.1
 have hst0 : StB w.heap.size Z lb ⟨n, pushT hd.ps.toList gs (zipT ds cs), s1.L⟩ { tmps := (hd.ps.zip (args.map a.eval)).foldl (fun tmps (t, a) => tmps.setIfInBounds t a) tm, defers := [] } w :=
  ⟨⟨hs.own, htm.2, Marks.nil hlt, htm.1⟩, Nat.le_refl _, fun d hd => by simp at hd⟩
 show RoundIn Fence.wide 0 E.P l hd.fn _ hd.assign hd.body w _
 have hlb : lb.length ≤ lenL s1.L := by rw [lenL_eq, hs.own.len]; exact Nat.le_refl _
 refine roundIn_of_wpIn trivial ?_
 show hd.assign.wpIn (wd (some l)) 0 E.P _ _ w
 refine wpIn_mono (haw.run (some l) (.inr hr1) _ Z lb _ w hst0) ?_
 rintro e1 a1 w1 ⟨Z1, lb1, s2, x1, hs1, hq⟩
 obtain ⟨rfl, hL1, haw2⟩ := hq.run
 rw [nth_eq] at hL1
 obtain ⟨tm1, vs1, p1, p2, p3, p4, p5, p6, st1, own1⟩ := hs1.own.putRec (st' := .busy) (pe' := none) hL1
 refine ⟨_, run_beginRound (r := recL hd .ready none tm1) p3 rfl, ?_⟩
 have hst1 : StB w.heap.size Z1 lb1 { n := s2.n, t := s2.t, L := setL s2.L k (some (.lp l (recO hd .busy none) n ds cs)) } a1 (w1.putObj l (recO hd .busy none tm1)) :=
  hs1.to ⟨by rw [setL_eq]; exact own1, fun d x hx => by obtain ⟨u, g1, g2⟩ := hs1.tm d x hx; exact ⟨u, g1, st1.arep g2⟩, hs1.df.stp st1, hs1.sz⟩ rfl st1.size
 show hd.body.wpIn (wd (some l)) 0 E.P _ a1 (w1.putObj l (recO hd .busy none tm1))
 refine wpIn_mono (haw2.run (some l) (.inr hr2) _ Z1 lb1 a1 _ hst1) ?_
 rintro e2 a2 w2 ⟨Z2, lb2, s3, x2, hs2, hq2⟩
 obtain ⟨hL2, hq3⟩ := hq2.run
 obtain ⟨r, hr, hK2⟩ := onF_some hq3
 rw [nth_eq] at hL2
 have fin : ∀ (b : Bool) (ls : LoopState) (jump : Option Code), r = (b, ls, jump) → b = jump.isNone → ls = (if jump.isNone then .ready else .done) → ∃ v w', (Instr.endRound l jump).run E.P w2 = .ok v w' ∧ K' (a.put o.dst v) w' := by
  intro b ls jump hr hb hls
  subst hr
  obtain ⟨tm2, vs2, q1, q2, q3, q4, q5, q6, st2, own2⟩ := hs2.own.putRec (st' := ls) (pe' := jump) hL2
  have hrn := run_endRound (P := E.P) (r := recL hd .busy none tm2) jump q3
  refine ⟨.bool jump.isNone, w2.putObj l (recO hd ls jump tm2), by rw [hrn, hls]; rfl, ?_⟩
  have x3 := (x1.trans ((st1.ext _).trans x2)).trans (st2.ext _)
  refine hK Z2 lb2 _ _ _ x3 ⟨by rw [setL_eq]; exact own2, fun d x hx => ?_, ?_, ?_⟩ put_df hK2
  ·rw [hdd]
   have hdl : dd < a.tmps.size := by rw [hs.sz]; simpa [Nat.blt_eq] using hdn
   simp only [tget] at hx
   split at hx
   ·rename_i hbq
    have hbq := Nat.eq_of_beq_eq_true hbq
    subst hbq
    simp only [Option.some.injEq] at hx
    subst hx
    exact ⟨.bool jump.isNone, by simp [Act.put, hdl], by rw [hb]; simp only [ARep, Rep]; exact ⟨trivial, rfl⟩⟩
   ·rename_i hbq
    have hne : dd ≠ d := fun e => by subst e; simp at hbq
    obtain ⟨u, g1, g2⟩ := hs.tm d x hx
    exact ⟨u, by simp [Act.put, Array.getElem?_setIfInBounds_ne hne, g1], ARep.mono x3.z1 x3.keep (x3.lbLe hlb) x3.bs _ _ g2⟩
  ·rw [put_df]; exact hs.df.core x3.size x3.z2 x3.hp x3.fresh
  ·rw [hdd]; simp [Act.put, hs.sz]
 cases e2 with
 | normal => simp only [leftBy, Option.some.injEq] at hr; exact fin true .ready none hr.symm rfl rfl
 | ret => simp only [leftBy, Option.some.injEq] at hr; exact fin false .done (some .ret) hr.symm rfl rfl
 | exit i => simp only [leftBy, Option.some.injEq] at hr; exact fin false .done (some (.exit i)) hr.symm rfl rfl
 | _ => simp [leftBy] at hr
theorem r_yield {E : Env} {nb : Nat} {Q : Exit → ASt → Prop} {s : ASt} {id : Nat} (k l n : Nat) (hd : LoopHd) (ds : List Nat) (cs : List AV) (p : List Oper) {d0 dd : Nat} {args : Array Operand} {ts : Array TypeId} {ty : TypeId} {pos : String} {af : Array Edge} (q : List Oper)
  (h : VX E (p ++ ⟨some dd, .call { callee := .value (.tmp d0), args := args, argTypes := ts }, ty, pos, af, none⟩ :: q) p (lenL s.L) { s with L := addL s.L (holesOf (p ++ ⟨some dd, .call { callee := .value (.tmp d0), args := args, argTypes := ts }, ty, pos, af, none⟩ :: q)) } [] fun s1 _ =>
   yieldK E k l n hd ds cs d0 dd args.toList (fun s2 => VX E (p ++ ⟨some dd, .call { callee := .value (.tmp d0), args := args, argTypes := ts }, ty, pos, af, none⟩ :: q) q (lenL s.L + holesOf p + slotsOf ⟨some dd, .call { callee := .value (.tmp d0), args := args, argTypes := ts }, ty, pos, af, none⟩) s2 [] (regK false (p ++ ⟨some dd, .call { callee := .value (.tmp d0), args := args, argTypes := ts }, ty, pos, af, none⟩ :: q) fun s => Q .normal s)) s1) :
  awp E.P nb (.region id (p ++ ⟨some dd, .call { callee := .value (.tmp d0), args := args, argTypes := ts }, ty, pos, af, none⟩ :: q).toArray false) Q s := by
 refine ⟨fun ρ hρ B Z lb a w hs => ?_⟩
 generalize ho : (⟨some dd, .call { callee := .value (.tmp d0), args := args, argTypes := ts }, ty, pos, af, none⟩ : Oper) = o at h hρ ⊢
 have hr0 : ρ = none ∨ (p ++ o :: q).all rfO = true := hρ.imp (fun h => h) fun h => by simpa [rf] using h
 have hr1 : ρ = none ∨ p.all rfO = true := hr0.imp (fun h => h) fun h => by simp only [List.all_append, Bool.and_eq_true] at h; exact h.1
 have hr2 : (ρ = none ∨ rfO o = true) ∧ (ρ = none ∨ q.all rfO = true) := rf_2 (hr0.imp (fun h => h) fun h => by simp only [List.all_append, Bool.and_eq_true, List.all_cons] at h; simp [h.2])
 obtain ⟨es, s', ht, hK⟩ := vexec_trace E _ p _ _ _ _ h.run
 have hs1 := hs.toSt.addHoles (holesOf (p ++ o :: q))
 have hext := (hs.own.addHoles (holesOf (p ++ o :: q))).2 nb
 refine wpIn_region_list ?_
 rw [List.toList_toArray]
 refine seq_pre (by simp) hr1 ht hs1 fun Z1 lb1 a1 w1 st1 hs1' hdf1 => ?_
 unfold wpListIn
 rw [if_pos (by rw [← ho]; simp [Region.wanted])]
 refine wpIn_yield (by rw [← ho]) (by rw [← ho]) hK hs1' fun Z2 lb2 a2 w2 s2 x2 hs2 hdf2 hK2 => ?_
 obtain ⟨es2, s3, ht2, hK3⟩ := vexec_trace E _ q _ _ _ _ hK2.run
 refine seq_sound (ops := p ++ o :: q) (by simp) hr2.2 ht2 hs2 fun Z3 lb3 a3 w3 st3 hs3 hdf3 => ?_
 have hlb : lb1.length ≤ lenL s'.L := by rw [lenL_eq, hs1'.own.len]; exact Nat.le_refl _
 have x4 : Ext nb Z1 lb1 w1 Z3 lb3 w3 := (x2.le hlb).trans (st3.ext nb)
 exact ⟨Z3, lb3, s3, (hext.trans (st1.ext nb)).trans x4, hs.to hs3 ((hdf3.trans hdf2).trans hdf1) ((st1.ext nb).trans x4).size, hK3⟩
end Go.Ab
namespace Go.Ab
variable [Glob]
structure rangeQ (k l : Nat) (hd : LoopHd) (ds : List Nat) (cs : List AV) (n : Nat) (t : List (Nat × Option AV)) (Q : Exit → ASt → Prop) (ex : Exit) (s' : ASt) (_ : Tag Q := ⟨⟩) : Prop where
 run : (ex = .normal ∨ ex = .ret) ∧ ∃ st pe, nth s'.L k = some (some (.lp l (recO hd st pe) n ds cs)) ∧ st ≠ .busy ∧ (match pe with
  | none => Q .normal ⟨n, t, setL s'.L k (some .dead)⟩
  | some .ret => Q .ret ⟨n, t, setL s'.L k (some .dead)⟩
  | some (.exit i) => Q (.exit i) ⟨n, t, setL s'.L k (some .dead)⟩
  | _ => False)
theorem stp_alloc {Z : Nat → Prop} {lb : Lb} {w : World} (ob : Obj) (hz : ZOk Z w) : Stp Z lb w Z lb (w.alloc ob) where
 os := rfl
 tape := rfl
 output := ⟨rfl, fun _ => Nat.le_refl _⟩
 size := by simp
 keep := fun x hx => alloc_heap_old (hz.lt x hx)
 z1 := fun _ h => h
 z2 := fun _ h _ => .inl h
 bs := fun x hx => by simp [bsize, alloc_heap_old hx]
 hp := fun x hx _ => alloc_heap_old hx
 le := fun _ _ h => h
 fresh := fun i _ h => .inl ⟨i, h⟩
 len := rfl
theorem Own.alloc {Z : Nat → Prop} {lb : Lb} {L : List (Option Ob)} {w : World} (h : Own Z lb L w) (ob : Obj) : Own Z lb L (w.alloc ob) := by
 have st := stp_alloc (lb := lb) ob h.zlt
 refine ⟨h.len, fun i o hi => ?_, h.hole, h.inj, fun b hb => Nat.lt_of_lt_of_le (h.zlt.lt b hb) st.size, Glob.mono st.z1 st.keep h.zlt.gl⟩
 obtain ⟨x, h1, h2⟩ := h.obj i o hi
 refine ⟨x, h1, h2.mono st fun b hl hb => ?_⟩
 subst hb
 obtain ⟨g1, g2⟩ := h2.block hl
 exact ⟨alloc_heap_old g2, g1⟩
theorem appO_eq : ∀ (a b : List (Option Ob)), appO a b = a ++ b
 | [], _ => rfl
 | x :: a, b => by simp [appO, appO_eq a]
theorem r_range {E : Env} {nb : Nat} {Q : Exit → ASt → Prop} {s : ASt} {g : Operand} {ps : Array Tmp} {assign body : Code} (gf : FuncId) {fnI : Func} {cI : Code} (nI : Nat) (caps : List AV) (keep : List Nat)
  (hg : withV (ev s.t g) fun | .fn f cs => f = gf ∧ cs = caps | .p (.fn f cs) => f = gf ∧ mapP cs = caps | _ => False)
  (hf : E.P.funcs[gf]? = some fnI) (hb : fnI.body = some cI) (hnt : fnI.ntmps = nI) (hres : fnI.results.toList = []) (hname : (fnI.name == "runtime.NumGoroutine") = false) (hle : Nat.ble (caps.length + 1) nI = true)
  (h : ∀ l fn D, awp E.P (lenL s.L + 1) cI (rangeQ (lenL s.L) l ⟨fn, ps, assign, body, D⟩ (keepD s.t keep) (keepV s.t keep) s.n s.t Q)
   ⟨nI, initA 0 (.p (.v (.func (.yield l) #[] #[])) :: caps), appO s.L [some (.lp l (recO ⟨fn, ps, assign, body, D⟩ .ready none) s.n (keepD s.t keep) (keepV s.t keep))]⟩) : awp E.P nb (.rangeFunc g ps assign body) Q s := by
 refine ⟨fun ρ hρ B Z lb a w hs => ?_⟩
 obtain rfl : ρ = none := hρ.resolve_right (by simp [rf])
 have hgv : ∃ vs, AReps Z lb w caps vs ∧ a.eval g = .func (.func gf) #[] vs.toArray := by
  obtain ⟨y, hy, hg⟩ := withV_some hg
  have hr := ev_rep hs.toSt hy
  split at hg
  ·obtain ⟨rfl, rfl⟩ := hg
   simp only [ARep] at hr
   exact hr
  ·obtain ⟨rfl, rfl⟩ := hg
   simp only [ARep, Rep] at hr
   obtain ⟨vs, k1, k2⟩ := hr
   exact ⟨vs, by rw [mapP_eq, areps_p]; exact k1, k2⟩
  ·exact hg.elim
 obtain ⟨vs, hv1, hv2⟩ := hgv
 refine wpIn_rangeFunc ?_
 intro fn hfn
 obtain ⟨hd, hhd⟩ : ∃ hd : LoopHd, hd = ⟨fn, ps, assign, body, w.heap.size⟩ := ⟨_, rfl⟩
 obtain ⟨l, hl⟩ : ∃ l, l = w.heap.size + 1 := ⟨_, rfl⟩
 -- the two blocks
 have o1 := hs.own.alloc (.deferred (some []))
 have st1 := stp_alloc (lb := lb) (.deferred (some [])) hs.own.zlt
 have hlt1 : LtB lb (w.alloc (.deferred (some []))) := hs.df.1.core st1.size st1.fresh
 obtain ⟨o2, x2⟩ := o1.addHoles 1
 obtain ⟨vt, hk1, hk2⟩ := keep_zip hs.toSt keep
 have hr2 : (s.L ++ List.replicate 1 none)[lenL s.L]? = some none := by rw [lenL_eq]; simp
 have hsz1 : (w.alloc (.deferred (some []))).heap.size = l := by rw [hl]; simp
 obtain ⟨lb1, st3, o3, hb3⟩ := o2.new hr2 (ob := recO hd .ready none a.tmps) (o' := .lp l (recO hd .ready none) s.n (keepD s.t keep) (keepV s.t keep)) (fun lb' st hz => by
  refine ⟨hz, by simp, hsz1, vt, a.tmps, ?_, hs.sz, World.alloc_heap_new _ _, hk2⟩
  have := st1.areps hk1
  have := AReps.mono (lb' := lb ++ List.replicate 1 none) (x2 0).z1 (x2 0).keep (fun i x hx => by
   have : i < lb.length := by
    rcases Nat.lt_or_ge i lb.length with h' | h'
    ·exact h'
    ·simp [List.getElem?_eq_none h'] at hx
   rw [List.getElem?_append_left this]; exact hx) (x2 0).bs _ _ this
  exact st.areps this)
 obtain ⟨W1, hW1⟩ : ∃ W1, (w.alloc (.deferred (some []))).alloc (recO hd .ready none a.tmps) = W1 := ⟨_, rfl⟩
 rw [hW1] at st3 o3
 have hset : (s.L ++ List.replicate 1 none).set (lenL s.L) (some (.lp l (recO hd .ready none) s.n (keepD s.t keep) (keepV s.t keep))) = appO s.L [some (.lp l (recO hd .ready none) s.n (keepD s.t keep) (keepV s.t keep))] := by
  rw [appO_eq, lenL_eq]; simp
 rw [hset] at o3
 have x3 : ∀ m, Ext m Z lb w Z lb1 W1 := fun m => ((st1.ext m).trans (x2 m)).trans (st3.ext m)
 have hlt3 : LtB lb1 W1 := hs.df.1.core (x3 0).size (x3 0).fresh
 have hW1s : W1.heap.size = w.heap.size + 2 := by rw [← hW1]; simp
 have hlbl : lb1.length = lenL s.L + 1 := by rw [o3.len, appO_eq, lenL_eq]; simp
 have hle0 : LbLe lb lb1 := (x3 lb.length).lbLe (Nat.le_refl _)
 have hD1 : W1.heap[w.heap.size]? = some (.deferred (some [])) := by
  rw [← hW1]
  exact (alloc_heap_old (by simp)).trans (World.alloc_heap_new w _)
 have hDlb : ∀ i : Nat, lb1[i]? ≠ some (some (some w.heap.size)) := by
  intro i hi
  rcases st3.fresh i _ hi with ⟨j, hj⟩ | hj
  ·rcases (x2 0).fresh j _ hj with ⟨j', hj'⟩ | hj'
   ·exact absurd (hs.df.1 j' _ hj') (by omega)
   ·simp at hj'; omega
  ·rw [hsz1] at hj; omega
 have hDZ : ¬ Z w.heap.size := fun hz => absurd (hs.own.zlt.lt _ hz) (by omega)
 have hnI := Nat.le_of_ble_eq_true hle
 have hvl : vs.length = caps.length := hv1.length
 have hinI : AReps Z lb1 W1 (.p (.v (.func (.yield l) #[] #[])) :: caps) (.func (.yield l) #[] #[] :: vs) := by
  simp only [AReps]
  exact ⟨_, _, rfl, by simp only [ARep, Rep]; exact ⟨trivial, rfl⟩, AReps.mono (x3 0).z1 (x3 0).keep hle0 (x3 0).bs _ _ hv1⟩
 have hst : St Z lb1 ⟨nI, initA 0 (.p (.v (.func (.yield l) #[] #[])) :: caps), appO s.L [some (.lp l (recO hd .ready none) s.n (keepD s.t keep) (keepV s.t keep))]⟩
   {tmps := (Value.func (.yield l) #[] #[] :: vs).toArray ++ Array.replicate (fnI.ntmps - (Value.func (.yield l) #[] #[] :: vs).toArray.size) undef, defers := [] } W1 := by
  refine ⟨o3, ?_, Marks.nil hlt3, by simp; omega⟩
  intro d x hx
  obtain ⟨_, hy⟩ := initA_get hx
  rw [Nat.sub_zero] at hy
  obtain ⟨u, h1, h2⟩ := hinI.get d x hy
  have hdl : d < (Value.func (.yield l) #[] #[] :: vs).length := by
   rcases Nat.lt_or_ge d (Value.func (.yield l) #[] #[] :: vs).length with h' | h'
   ·exact h'
   ·simp [List.getElem?_eq_none h'] at h1
  refine ⟨u, ?_, h2⟩
  rw [Array.getElem?_append_left (by simpa using hdl)]
  simpa using h1
 have hcal : Callable E.P gf := ⟨fnI, hf, by rw [hb]; rfl, hname⟩
 have hhl := h l fn w.heap.size
 rw [← hhd] at hhl
 refine ⟨l, [{ target := .collected w.heap.size, args := #[] }], W1, { target := .fn (.func gf) vs.toArray, args := #[.func (.yield l) #[] #[]] }, W1, gf, (Value.func (.yield l) #[] #[] :: vs).toArray, W1, ?_, ?_, fun _ _ => trivial, ?_, fun hh => by simp [wd, Fence.wide] at hh, ?_⟩
 ·rw [← hW1, hhd, hl]; exact run_enterLoop_outer _ _ _ _ _
 ·simp [resolve, Deferred.ofValue, hv2]
  rfl
 ·have : #[Value.func (.yield l) #[] #[]] ++ vs.toArray = (Value.func (.yield l) #[] #[] :: vs).toArray := by apply Array.ext'; simp
  simp only [invoke, this, run_callFunc hcal]
 ·refine callsIn_wd.2 (calls_awp hf hb hhl hst ?_)
  intro ex a' w' Z' lb' s' x4 h2 hdf hq
  obtain ⟨hex, stt, pe, hk, hstt, hQ⟩ := hq.run
  rw [nth_eq] at hk
  refine ⟨hex, ?_⟩
  obtain ⟨v, hrun, _⟩ := run_results h2 (fn := fnI) (xs := []) (by rw [hres]; rfl)
  refine ⟨v, hrun, ?_⟩
  obtain ⟨tm, vs2, q1, q2, q3, q4, q5, q6, st5, o5⟩ := h2.own.putRec (st' := .exhausted) (pe' := pe) hk
  have hkl : lenL s.L < s'.L.length := by
   rcases Nat.lt_or_ge (lenL s.L) s'.L.length with h' | h'
   ·exact h'
   ·simp [List.getElem?_eq_none h'] at hk
  have o6 := o5.kill (k := lenL s.L) (by rw [List.getElem?_set_self hkl])
  rw [List.set_set] at o6
  refine ⟨pe, w'.putObj l (recO hd .exhausted pe tm), run_endLoop (r := recL hd stt pe tm) q3 hstt, ?_⟩
  have x5 : ∀ m, Ext m Z lb1 W1 Z' lb' (w'.putObj l (recO hd .exhausted pe tm)) → True := fun _ _ => trivial
  have x6 : Ext (lenL s.L + 1) Z lb1 W1 Z' lb' (w'.putObj l (recO hd .exhausted pe tm)) := x4.trans (st5.ext _)
  have hle6 : LbLe lb1 lb' := x6.lbLe (by omega)
  have x7 : Ext nb Z lb w Z' lb' (w'.putObj l (recO hd .exhausted pe tm)) := (x3 nb).trans (x6.le (by omega))
  have hD2 : ∀ {W : World} {Za : Nat → Prop} {lba : Lb}, Ext (lenL s.L + 1) Z lb1 W1 Za lba W → ¬ Za w.heap.size ∧ W.heap[w.heap.size]? = some (.deferred (some [])) ∧ ∀ i : Nat, lba[i]? ≠ some (some (some w.heap.size)) := by
   intro W Za lba x
   refine ⟨fun hz => ?_, (x.hp _ (by omega) hDlb).trans hD1, fun i hi => ?_⟩
   ·rcases x.z2 _ hz (by omega) with h | ⟨i, h⟩
    ·exact hDZ h
    ·exact hDlb i h
   ·rcases x.fresh i _ hi with ⟨j, h⟩ | h
    ·exact hDlb j h
    ·omega
  have hm0 : Marks Z' lb' (w'.putObj l (recO hd .exhausted pe tm)) a.defers := hs.df.core x7.size x7.z2 x7.hp x7.fresh
  have hm : Marks Z' lb' (w'.putObj l (recO hd .exhausted pe tm)) ({ target := .collected w.heap.size, args := #[] } :: a.defers) := by
   obtain ⟨m0, rs, m1, m2, m3⟩ := hm0
   refine ⟨m0, w.heap.size :: rs, by simp [m1], List.nodup_cons.2 ⟨fun hr => ?_, m2⟩, fun r hr => ?_⟩
   ·obtain ⟨_, rs0, e1, e2, e3⟩ := hs.df
    have hrs : rs = rs0 := by
     have := m1.symm.trans e1
     exact List.map_inj_right (fun a b h => by simpa using h) |>.1 this
    subst hrs
    exact absurd (heap_lt (e3 _ hr).2.1) (by omega)
   ·rcases List.mem_cons.1 hr with rfl | hr
    ·exact hD2 x6
    ·exact m3 r hr
  have hfin : StB B Z' lb' ⟨s.n, s.t, setL s'.L (lenL s.L) (some .dead)⟩ { tmps := a.tmps, defers := { target := .collected w.heap.size, args := #[] } :: a.defers } (w'.putObj l (recO hd .exhausted pe tm)) := by
   refine ⟨⟨by rw [setL_eq]; exact o6, fun d x hx => ?_, hm, hs.sz⟩, Nat.le_trans hs.bl x7.size, fun d hd => ?_⟩
   ·obtain ⟨u, g1, g2⟩ := hs.tm d x hx
    exact ⟨u, g1, ARep.mono x7.z1 x7.keep (fun i x hx => hle6 i x (hle0 i x hx)) x7.bs _ _ g2⟩
   ·rcases List.mem_cons.1 hd with rfl | hd
    ·exact ⟨_, rfl, hs.bl⟩
    ·exact hs.ge d hd
  cases pe with
  | none => exact ⟨Z', lb', _, x7, hfin, hQ⟩
  | some c =>
   cases c with
   | ret => exact wpIn_ret ⟨Z', lb', _, x7, hfin, hQ⟩
   | exit i => exact wpIn_exit ⟨Z', lb', _, x7, hfin, hQ⟩
   | _ => exact hQ.elim
end Go.Ab
