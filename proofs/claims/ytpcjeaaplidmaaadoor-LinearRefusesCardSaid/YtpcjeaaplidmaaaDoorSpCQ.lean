/- Contracts of functions of this program, and the plain facts that they rest on. No conditions. -/
import Derived.Test.YtpcjeaaplidmaaaDoorSpBQ
set_option linter.unusedSimpArgs false
set_option linter.unusedVariables false
namespace Go.Proofs.YtpcjeaaplidmaaaDoor.Sp.Pl
abbrev LP := List (Int × Int)
def lb : LP → Int → Nat
 | [], _ => 0
 | p :: t, k => if p.1 < k then lb t k + 1 else 0
def look : LP → Int → Option Int
 | [], _ => none
 | p :: t, k => if p.1 < k then look t k else if p.1 = k then some p.2 else none
def ins : LP → Int → Int → LP
 | [], k, v => [(k, v)]
 | p :: t, k, v => if p.1 < k then p :: ins t k v else if p.1 = k then (k, v) :: t else (k, v) :: p :: t
def del : LP → Int → LP
 | [], _ => []
 | p :: t, k => if p.1 < k then p :: del t k else if p.1 = k then t else p :: t
def srt : LP → Prop
 | [] => True
 | p :: t => (∀ q, q ∈ t → p.1 < q.1) ∧ srt t
theorem lb_get_look : ∀ (l : LP) k, (look l k).isSome = decide (lb l k < l.length ∧ (l.getD (lb l k) (0, 0)).1 = k)
 | [], k => by simp [look, lb]
 | p :: t, k => by
  simp only [look, lb]
  by_cases h : p.1 < k
  ·simp only [if_pos h, lb_get_look t k]; simp
  ·simp only [if_neg h]
   by_cases h2 : p.1 = k
   ·simp [if_pos h2, h2]
   ·simp [if_neg h2, h2]
theorem look_val : ∀ (l : LP) k v, look l k = some v → (l.getD (lb l k) (0, 0)).2 = v
 | [], k, v, h => by simp [look] at h
 | p :: t, k, v, h => by
  simp only [look, lb] at h ⊢
  by_cases h1 : p.1 < k
  ·simp only [if_pos h1] at h ⊢; simpa using look_val t k v h
  ·simp only [if_neg h1] at h ⊢
   by_cases h2 : p.1 = k
   ·simp only [if_pos h2, Option.some.injEq] at h; simpa using h
   ·simp [if_neg h2] at h
theorem ins_eq : ∀ (l : LP) k v, l.take (lb l k) ++ ((k, v) :: l.drop (lb l k + (if (look l k).isSome then 1 else 0))) = ins l k v
 | [], k, v => by simp [lb, look, ins]
 | p :: t, k, v => by
  simp only [look, lb, ins]
  by_cases h : p.1 < k
  ·have := ins_eq t k v
   simp only [if_pos h, List.take_succ_cons, List.cons_append]
   rw [show lb t k + 1 + (if (look t k).isSome then 1 else 0) = (lb t k + (if (look t k).isSome then 1 else 0)) + 1 by omega, List.drop_succ_cons, this]
  ·simp only [if_neg h]
   by_cases h2 : p.1 = k
   ·simp [if_pos h2]
   ·simp [if_neg h2]
theorem del_eq : ∀ (l : LP) k, (look l k).isSome = true → l.take (lb l k) ++ l.drop (lb l k + 1) = del l k
 | [], k, h => by simp [look] at h
 | p :: t, k, h => by
  simp only [look, lb, del] at h ⊢
  by_cases h1 : p.1 < k
  ·simp only [if_pos h1] at h ⊢
   simp only [List.take_succ_cons, List.cons_append, List.drop_succ_cons]
   rw [del_eq t k h]
  ·simp only [if_neg h1] at h ⊢
   by_cases h2 : p.1 = k
   ·simp [if_pos h2]
   ·simp [if_neg h2] at h
theorem mem_ins : ∀ {l : LP} {k v : Int} {q : Int × Int}, q ∈ ins l k v → q = (k, v) ∨ q ∈ l
 | [], k, v, q, h => by simp [ins] at h; exact .inl h
 | p :: t, k, v, q, h => by
  simp only [ins] at h
  split at h
  ·rcases List.mem_cons.1 h with rfl | h
   ·exact .inr List.mem_cons_self
   ·rcases mem_ins h with h | h
    ·exact .inl h
    ·exact .inr (List.mem_cons_of_mem _ h)
  ·split at h
   ·rcases List.mem_cons.1 h with rfl | h
    ·exact .inl rfl
    ·exact .inr (List.mem_cons_of_mem _ h)
   ·rcases List.mem_cons.1 h with rfl | h
    ·exact .inl rfl
    ·exact .inr h
theorem mem_del : ∀ {l : LP} {k : Int} {q : Int × Int}, q ∈ del l k → q ∈ l
 | [], k, q, h => by simp [del] at h
 | p :: t, k, q, h => by
  simp only [del] at h
  split at h
  ·rcases List.mem_cons.1 h with rfl | h
   ·exact List.mem_cons_self
   ·exact List.mem_cons_of_mem _ (mem_del h)
  ·split at h
   ·exact List.mem_cons_of_mem _ h
   ·exact h
theorem srt_ins : ∀ {l : LP} {k v : Int}, srt l → srt (ins l k v)
 | [], k, v, _ => ⟨fun q h => by simp at h, trivial⟩
 | p :: t, k, v, h => by
  obtain ⟨h1, h2⟩ := h
  simp only [ins]
  split
  ·rename_i hlt
   refine ⟨fun q hq => ?_, srt_ins h2⟩
   rcases mem_ins hq with rfl | hq
   ·exact hlt
   ·exact h1 q hq
  ·split
   ·rename_i he
    exact ⟨fun q hq => by have := h1 q hq; simp only; omega, h2⟩
   ·refine ⟨fun q hq => ?_, h1, h2⟩
    simp only
    rcases List.mem_cons.1 hq with rfl | hq
    ·omega
    ·have := h1 q hq; omega
theorem srt_del : ∀ {l : LP} {k : Int}, srt l → srt (del l k)
 | [], k, _ => trivial
 | p :: t, k, h => by
  obtain ⟨h1, h2⟩ := h
  simp only [del]
  split
  ·exact ⟨fun q hq => h1 q (mem_del hq), srt_del h2⟩
  ·split
   ·exact h2
   ·exact ⟨h1, h2⟩
theorem len_ins : ∀ (l : LP) k v, (ins l k v).length ≤ l.length + 1
 | [], k, v => by simp [ins]
 | p :: t, k, v => by
  simp only [ins]; split
  ·simp [len_ins t k v]
  ·split <;> simp
theorem len_del : ∀ (l : LP) k, (del l k).length ≤ l.length
 | [], k => by simp [del]
 | p :: t, k => by
  simp only [del]; split
  ·simp [len_del t k]
  ·split <;> simp
theorem srt_get : ∀ {l : LP}, srt l ↔ ∀ i j, i < j → j < l.length → (l.getD i (0, 0)).1 < (l.getD j (0, 0)).1
 | [] => by simp [srt]
 | p :: t => by
  simp only [srt]
  rw [srt_get (l := t)]
  constructor
  ·rintro ⟨h1, h2⟩ i j hij hj
   cases j with
   | zero => omega
   | succ j =>
    have hj' : j < t.length := by simpa using hj
    cases i with
    | zero =>
     have := h1 t[j] (List.getElem_mem hj')
     simpa [List.getD_eq_getElem?_getD, hj'] using this
    | succ i => simpa using h2 i j (by omega) hj'
  ·intro h
   refine ⟨fun q hq => ?_, fun i j hij hj => by simpa using h (i + 1) (j + 1) (by omega) (by simpa using hj)⟩
   obtain ⟨j, hj, rfl⟩ := List.mem_iff_getElem.1 hq
   have := h 0 (j + 1) (by omega) (by simpa using hj)
   simpa [List.getD_eq_getElem?_getD, hj] using this
def find : LP → Int → Option Int
 | [], _ => none
 | p :: t, k => if p.1 = k then some p.2 else find t k
def wo (l : LP) (k : Int) : LP := l.filter fun p => decide (¬ p.1 = k)
def set (l : LP) (k v : Int) : LP := (wo l k).take (lb (wo l k) k) ++ ((k, v) :: (wo l k).drop (lb (wo l k) k))
end Go.Proofs.YtpcjeaaplidmaaaDoor.Sp.Pl
namespace Go.Proofs.YtpcjeaaplidmaaaDoor.Sp
open Go Go.Ab
attribute [local irreducible] callK callF loopQ vstep vskip pickE hideP
theorem lb_pl : ∀ (l : List (Int × Int)) k, lbM l k = Pl.lb l k
 | [], _ => rfl
 | p :: t, k => by simp only [lbM, Pl.lb, lb_pl t k]
theorem has_pl (l : List (Int × Int)) (k : Int) : hasM l k = (Pl.look l k).isSome := by
 rw [Pl.lb_get_look, hasM, lb_pl]; rfl
theorem sorted_pl {l : List (Int × Int)} : SortedM l ↔ Pl.srt l := by rw [Pl.srt_get]; rfl
theorem old_pl (l : List (Int × Int)) (k : Int) : (if hasM l k then (l.getD (lbM l k) default).2 else 0) = (Pl.look l k).getD 0 := by
 rw [has_pl, lb_pl]
 cases h : Pl.look l k with
 | none => rfl
 | some v =>
  have := Pl.look_val l k v h
  simp only [Option.isSome_some, if_true, Option.getD_some]; exact this
theorem repl_pl (l : List (Int × Int)) (k v : Int) : replM l (lbM l k) (hasM l k) [(k, v)] = Pl.ins l k v := by
 rw [← Pl.ins_eq, replM, lb_pl, has_pl]; rfl
theorem repl_pl2 {l : List (Int × Int)} {k : Int} (v : Int) (h : hasM l k = true) : replM l (lbM l k) true [(k, v)] = Pl.ins l k v := by
 rw [← repl_pl, h]
theorem repl_del {l : List (Int × Int)} {k : Int} (h : hasM l k = true) : replM l (lbM l k) true [] = Pl.del l k := by
 rw [has_pl] at h
 rw [← Pl.del_eq l k h, replM, lb_pl]; simp
structure Inv (s : S) (b : Nat) : Prop where
 srt : Pl.srt s.ps
 ps : s.ps.length ≤ b
 vs : s.vs.length ≤ b
 k : 0 ≤ s.k ∧ s.k ≤ 4
def mapP' (s : S) (o : O) : S × R :=
 if (o.c = 4 ∨ o.c = 6 ∨ o.c = 3) ∧ (Pl.look s.ps o.key).isSome = false then (s, ⟨0, false, 5⟩) else
 if o.c = 4 then (s, ⟨(Pl.look s.ps o.key).getD 0, true, 0⟩) else
 if o.c = 5 then ({ s with ps := Pl.ins s.ps o.key o.val }, ⟨(Pl.look s.ps o.key).getD 0, true, 0⟩) else
 if o.c = 6 then ({ s with ps := Pl.del s.ps o.key }, ⟨(Pl.look s.ps o.key).getD 0, true, 0⟩) else
 if o.c = 3 then (if (Pl.look s.ps o.key).getD 0 = o.old then ({ s with ps := Pl.ins s.ps o.key o.val }, ⟨o.old, true, 0⟩) else (s, ⟨(Pl.look s.ps o.key).getD 0, false, 6⟩)) else (s, ⟨0, false, 13⟩)
theorem map_pl (s : S) (o : O) : mapM s o = mapP' s o := by
 have ho := old_pl s.ps o.key
 have hr := repl_pl s.ps o.key o.val
 have hh := has_pl s.ps o.key
 cases h : hasM s.ps o.key
 ·rw [h] at ho hh hr
  simp only [mapM, mapP', h, ← hh, ← ho, hr]
  by_cases e4 : o.c = 4 <;> by_cases e6 : o.c = 6 <;> by_cases e3 : o.c = 3 <;> by_cases e5 : o.c = 5 <;> simp_all
 ·have h1 := repl_pl2 o.val h
  have h2 := repl_del h
  rw [h] at ho hh hr
  simp only [if_true] at ho
  simp only [mapM, mapP', h, ← hh, h1, h2, hr, ← ho]
  by_cases e4 : o.c = 4 <;> by_cases e6 : o.c = 6 <;> by_cases e3 : o.c = 3 <;> by_cases e5 : o.c = 5 <;> simp_all
theorem inv_apply {s : S} {b : Nat} (h : Inv s b) (o : O) : Inv (applyM s o).1 (b + 1) := by
 obtain ⟨h1, h2, h3, h4⟩ := h
 have keep : Inv s (b + 1) := ⟨h1, by omega, by omega, h4⟩
 have num : ∀ n, Inv { s with n := n } (b + 1) := fun n => ⟨h1, by simpa using Nat.le_succ_of_le h2, by simpa using Nat.le_succ_of_le h3, h4⟩
 unfold applyM
 split
 ·unfold regM
  repeat' split
  all_goals first | exact keep | exact num _
 split
 ·rw [map_pl]; unfold mapP'
  have i1 : Inv { s with ps := Pl.ins s.ps o.key o.val } (b + 1) := ⟨Pl.srt_ins h1, by have := Pl.len_ins s.ps o.key o.val; simp only; omega, by simp only; omega, h4⟩
  have i2 : Inv { s with ps := Pl.del s.ps o.key } (b + 1) := ⟨Pl.srt_del h1, by have := Pl.len_del s.ps o.key; simp only; omega, by simp only; omega, h4⟩
  repeat' split
  all_goals first | exact keep | exact i1 | exact i2
 split
 ·unfold queM
  have i1 : Inv { s with vs := s.vs ++ [o.val] } (b + 1) := ⟨h1, by simp only; omega, by simp; omega, h4⟩
  have i2 : Inv { s with vs := s.vs.drop 1 } (b + 1) := ⟨h1, by simp only; omega, by simp; omega, h4⟩
  repeat' split
  all_goals first | exact keep | exact i1 | exact i2
 split
 ·repeat' split
  all_goals first | exact keep | exact num _
 ·exact keep
theorem cont_len {s : S} {b : Nat} (h : Inv s b) : (contM s).length ≤ b + 1 := by
 unfold contM
 split
 ·simp
 ·split
  ·have := h.ps; omega
  ·rw [enumI_length]; have := h.vs; omega
theorem S_ext {s t : S} (h1 : s.k = t.k) (h2 : s.n = t.n) (h3 : s.ps = t.ps) (h4 : s.vs = t.vs) : s = t := by
 cases s; cases t; simp_all
structure Neat (s : S) : Prop where
 n : ¬ (s.k = 1 ∨ s.k = 4) → s.n = 0
 ps : ¬ s.k = 2 → s.ps = []
 vs : ¬ s.k = 3 → s.vs = []
theorem neat_apply {s : S} (h : Neat s) (o : O) : Neat (applyM s o).1 := by
 obtain ⟨h1, h2, h3⟩ := h
 have keep : Neat s := ⟨h1, h2, h3⟩
 unfold applyM
 split
 ·rename_i hk
  have num : ∀ n, Neat { s with n := n } := fun n => ⟨fun hh => absurd (Or.inl hk) hh, h2, h3⟩
  unfold regM
  repeat' split
  all_goals first | exact keep | exact num _
 split
 ·rename_i hk
  have pss : ∀ l, Neat { s with ps := l } := fun l => ⟨h1, fun hh => absurd hk hh, h3⟩
  rw [map_pl]; unfold mapP'
  repeat' split
  all_goals first | exact keep | exact pss _
 split
 ·rename_i hk
  have vss : ∀ l, Neat { s with vs := l } := fun l => ⟨h1, h2, fun hh => absurd hk hh⟩
  unfold queM
  repeat' split
  all_goals first | exact keep | exact vss _
 split
 ·rename_i hk
  have num : ∀ n, Neat { s with n := n } := fun n => ⟨fun hh => absurd (Or.inr hk) hh, h2, h3⟩
  repeat' split
  all_goals first | exact keep | exact num _
 ·exact keep
theorem enum_inj : ∀ {a b : List Int} {i : Nat}, enumI i a = enumI i b → a = b
 | [], [], _, _ => rfl
 | [], _ :: _, _, h => by simp [enumI] at h
 | _ :: _, [], _, h => by simp [enumI] at h
 | x :: a, y :: b, i, h => by
  simp only [enumI, List.cons.injEq, Prod.mk.injEq] at h
  rw [h.1.2, enum_inj h.2]
theorem eq_cont {s t : S} (hs : Neat s) (ht : Neat t) : s = t ↔ s.k = t.k ∧ contM s = contM t := by
 constructor
 ·rintro rfl; exact ⟨rfl, rfl⟩
 ·rintro ⟨hk, hc⟩
  unfold contM at hc
  rw [← hk] at hc
  by_cases h1 : s.k = 1 ∨ s.k = 4
  ·rw [if_pos h1, if_pos h1] at hc
   simp only [List.cons.injEq, Prod.mk.injEq, and_true, true_and] at hc
   have g2 : ¬ s.k = 2 := by omega
   have g3 : ¬ s.k = 3 := by omega
   exact S_ext hk hc (by rw [hs.ps g2, ht.ps (by rw [← hk]; exact g2)]) (by rw [hs.vs g3, ht.vs (by rw [← hk]; exact g3)])
  ·rw [if_neg h1, if_neg h1] at hc
   have gn : s.n = t.n := by rw [hs.n h1, ht.n (by rw [← hk]; exact h1)]
   by_cases h2 : s.k = 2
   ·rw [if_pos h2, if_pos h2] at hc
    have g3 : ¬ s.k = 3 := by omega
    exact S_ext hk gn hc (by rw [hs.vs g3, ht.vs (by rw [← hk]; exact g3)])
   ·rw [if_neg h2, if_neg h2] at hc
    exact S_ext hk gn (by rw [hs.ps h2, ht.ps (by rw [← hk]; exact h2)]) (enum_inj hc)
theorem neat_new (k : Int) : Neat ⟨k, 0, [], []⟩ := ⟨fun _ => rfl, fun _ => rfl, fun _ => rfl⟩
theorem Inv.mono {s : S} {a b : Nat} (h : Inv s a) (hab : a ≤ b) : Inv s b := ⟨h.srt, Nat.le_trans h.ps hab, Nat.le_trans h.vs hab, h.k⟩
end Go.Proofs.YtpcjeaaplidmaaaDoor.Sp