/- Contracts of functions of this program, and the plain facts that they rest on. No conditions. -/
import Derived.Test.YtlldhofcdfejnaaDvGQ
import Derived.Test.YtlldhofcdfejnaaDvH0Q
set_option linter.unusedSimpArgs false
set_option linter.unusedVariables false
namespace Go.Proofs.Ytlldhofcdfejnaa
open Go Go.Ab
attribute [local irreducible] callK callF loopQ vstep vskip pickE hideP
set_option maxRecDepth 100000
def NoteOk (A : Dv) (k : Nat) : Prop := ∀ x v, A.note k x = some v → ∃ r : Nat, r < A.n ∧ x = .int .i64 r ∧ 0 ≤ v ∧ v ≤ A.done r + (A.hist r).length
def kF (B : Dv) (k r : Nat) : Nat := match B.note k (.int .i64 r) with
 | some p => (p - B.done r).toNat
 | none => 0
open Classical in
noncomputable def fencS (B : Dv) (k : Nat) (S : Nat → Prop) : Dv := { B with per := contS B (fun r => if S r then kF B k r else 0), hist := fun r => if S r then (B.hist r).drop (kF B k r) else B.hist r, done := fun r => if S r then B.done r + kF B k r else B.done r }
open Classical in
theorem fencS_per (B : Dv) (k : Nat) (S : Nat → Prop) : (fencS B k S).per = contS B (fun r => if S r then kF B k r else 0) := rfl
theorem appL_loc (l : List (Int × Int)) (j : Nat) : ∀ ws ws' : List Int, ws.length = ws'.length → ws.getD j 0 = ws'.getD j 0 → (appL ws l).getD j 0 = (appL ws' l).getD j 0 := by
 induction l with
 | nil => intro ws ws' _ h; exact h
 | cons x l ih =>
  intro ws ws' hl h
  refine ih _ _ (by simp [hl]) ?_
  simp only [List.getD_eq_getElem?_getD, List.getElem?_set] at h ⊢
  by_cases e : (x.1 / 8).toNat = j
  ·simp only [e, if_true, hl]
  ·simp only [if_neg e, h]
theorem kF_le {B : Dv} {k r : Nat} (hn : NoteOk B k) (hl : 0 ≤ B.done r) : kF B k r ≤ (B.hist r).length := by
 unfold kF
 split
 ·rename_i p hp
  obtain ⟨r', h1, h2, h3, h4⟩ := hn _ _ hp
  simp only [Value.int.injEq, true_and] at h2
  have : r' = r := by omega
  subst this
  omega
 ·omega
open Classical in
theorem wf_fencS {B : Dv} (h : WF B) {k : Nat} (hn : NoteOk B k) (S : Nat → Prop) : WF (fencS B k S) := by
 refine ⟨h.n0, h.n6, ?_, h.cur, ?_, ?_, ?_, trivial⟩
 ·rw [fencS_per]; exact contS_len _ _
 ·intro r hr x hx
  have hx : x ∈ (if S r then (B.hist r).drop (kF B k r) else B.hist r) := hx
  split at hx
  ·exact h.hist r hr x (List.mem_of_mem_drop hx)
  ·exact h.hist r hr x hx
 ·intro r h1 h2
  show (if S r then (B.hist r).drop (kF B k r) else B.hist r) = []
  rw [h.top r h1 h2]; split <;> simp
 ·intro r hr
  have hl := h.len r hr
  have hk := kF_le (r := r) hn hl.1
  show 0 ≤ (if S r then B.done r + kF B k r else B.done r) ∧ (if S r then B.done r + kF B k r else B.done r) + ((if S r then (B.hist r).drop (kF B k r) else B.hist r).length : Int) ≤ 1000000000
  split
  ·rw [List.length_drop]; omega
  ·exact hl
theorem Dv.ext' {A B : Dv} (h1 : A.n = B.n) (h2 : A.per = B.per) (h3 : A.cur = B.cur) (h4 : A.hist = B.hist) (h5 : A.done = B.done) (h6 : A.err = B.err) (h7 : A.note = B.note) (h8 : A.off = B.off) (h9 : A.armed = B.armed) (h10 : A.left = B.left) (h11 : A.ex = B.ex) : A = B := by
 cases A; cases B; simp_all
open Classical in
theorem fencS_none {B : Dv} (h : WF B) {k : Nat} {S : Nat → Prop} (hS : ∀ r, r < 6 → S r → kF B k r = 0) (hS' : ∀ r, 6 ≤ r → ¬ S r) : fencS B k S = B := by
 refine Dv.ext' rfl ?_ rfl ?_ ?_ rfl rfl rfl rfl rfl rfl
 ·refine list_getD (by rw [fencS_per, contS_len, h.per]) fun j hj => ?_
  rw [fencS_per, contS_len] at hj
  rw [fencS_per, contS_get _ _ _ hj]
  have : (if S (j / 8) then kF B k (j / 8) else 0) = 0 := by
   split
   ·rename_i hs; exact hS _ (by have := h.n6; omega) hs
   ·rfl
  rw [this, List.take_zero]; rfl
 ·funext r
  show (if S r then (B.hist r).drop (kF B k r) else B.hist r) = B.hist r
  split
  ·rename_i hs
   rcases Nat.lt_or_ge r 6 with h6 | h6
   ·rw [hS r h6 hs, List.drop_zero]
   ·exact absurd hs (hS' r h6)
  ·rfl
 ·funext r
  show (if S r then B.done r + kF B k r else B.done r) = B.done r
  split
  ·rename_i hs
   rcases Nat.lt_or_ge r 6 with h6 | h6
   ·rw [hS r h6 hs]; simp
   ·exact absurd hs (hS' r h6)
  ·rfl
open Classical in
theorem fencS_step {B : Dv} (h : WF B) {k q : Nat} (hn : NoteOk B k) {S S' : Nat → Prop} (hq : q < B.n) (h0 : ¬ S q) (hS : ∀ r, S' r ↔ S r ∨ r = q) : (fencS B k S).persist q (kF B k q) = fencS B k S' := by
 have hq' : S' q := (hS q).2 (.inr rfl)
 have hne : ∀ r, r ≠ q → (S' r ↔ S r) := fun r hr => ⟨fun hs => ((hS r).1 hs).resolve_right hr, fun hs => (hS r).2 (.inl hs)⟩
 have hhq : (fencS B k S).hist q = B.hist q := if_neg h0
 refine Dv.ext' rfl ?_ rfl ?_ ?_ rfl rfl rfl rfl rfl rfl
 ·show appL (fencS B k S).per (((fencS B k S).hist q).take (kF B k q)) = (fencS B k S').per
  rw [hhq, fencS_per B k S']
  refine list_getD (by rw [appL_len, fencS_per, contS_len, contS_len]) fun j hj => ?_
  rw [appL_len, fencS_per, contS_len] at hj
  rw [contS_get _ _ _ hj]
  by_cases e : j / 8 = q
  ·rw [e, if_pos hq']
   refine appL_loc _ _ _ _ (by rw [fencS_per, contS_len, h.per]) ?_
   rw [fencS_per, contS_get _ _ _ hj, e, if_neg h0, List.take_zero]; rfl
  ·rw [appL_off _ j (fun x hx => ?_), fencS_per, contS_get _ _ _ hj]
   ·by_cases hs : S (j / 8)
    ·rw [if_pos hs, if_pos ((hne _ e).2 hs)]
    ·rw [if_neg hs, if_neg (fun hs' => hs ((hne _ e).1 hs'))]
   ·have := h.hist q (by have := h.n6; omega) x (List.mem_of_mem_take hx)
    omega
 ·funext r
  show (if r = q then ((fencS B k S).hist q).drop (kF B k q) else (fencS B k S).hist r) = if S' r then (B.hist r).drop (kF B k r) else B.hist r
  by_cases e : r = q
  ·subst e; rw [if_pos rfl, if_pos hq', hhq]
  ·rw [if_neg e]
   show (if S r then (B.hist r).drop (kF B k r) else B.hist r) = _
   by_cases hs : S r
   ·rw [if_pos hs, if_pos ((hne _ e).2 hs)]
   ·rw [if_neg hs, if_neg (fun hs' => hs ((hne _ e).1 hs'))]
 ·funext r
  show (if r = q then (fencS B k S).done q + kF B k q else (fencS B k S).done r) = if S' r then B.done r + kF B k r else B.done r
  have hdq : (fencS B k S).done q = B.done q := if_neg h0
  by_cases e : r = q
  ·subst e; rw [if_pos rfl, if_pos hq', hdq]
  ·rw [if_neg e]
   show (if S r then B.done r + kF B k r else B.done r) = _
   by_cases hs : S r
   ·rw [if_pos hs, if_pos ((hne _ e).2 hs)]
   ·rw [if_neg hs, if_neg (fun hs' => hs ((hne _ e).1 hs'))]
theorem persist_0 (A : Dv) (q : Nat) : A.persist q 0 = A := by
 refine Dv.ext' rfl ?_ rfl ?_ ?_ rfl rfl rfl rfl rfl rfl
 ·show appL A.per ((A.hist q).take 0) = A.per; rfl
 ·funext r; show (if r = q then (A.hist q).drop 0 else A.hist r) = A.hist r; split
  ·rename_i e; rw [e]; rfl
  ·rfl
 ·funext r; show (if r = q then A.done q + (0 : Nat) else A.done r) = A.done r; split
  ·rename_i e; rw [e]; simp
  ·rfl
def Saw (es : Array MapEntry) (seen : Array Nat) (r : Nat) : Prop := ∃ e, e ∈ es.toList ∧ e.key = .int .i64 r ∧ seen.contains e.born = true
theorem key_uniq {es : Array MapEntry} {cl : Nat} (h : MapKept.Stamped es cl) {a b : MapEntry} (ha : a ∈ es.toList) (hb : b ∈ es.toList) (hk : a.key = b.key) : a = b := by
 have hp := ((MapKept.stamped_iff es cl).1 h).2.2
 obtain ⟨i, hi, rfl⟩ := List.mem_iff_getElem.1 ha
 obtain ⟨j, hj, rfl⟩ := List.mem_iff_getElem.1 hb
 rw [List.pairwise_iff_getElem] at hp
 rcases Nat.lt_trichotomy i j with h1 | h1 | h1
 ·exact absurd hk (hp i j hi hj h1)
 ·subst h1; rfl
 ·exact absurd hk.symm (hp j i hj hi h1)
theorem left_mem {es : Array MapEntry} {seen : Array Nat} {e : MapEntry} (h : e ∈ (leftOf es seen).toList) : e ∈ es.toList ∧ seen.contains e.born = false := by
 simp only [leftOf, Array.toList_filter, List.mem_filter] at h
 exact ⟨h.1, by simpa using h.2⟩
theorem born_uniq {es : Array MapEntry} {cl : Nat} (h : MapKept.Stamped es cl) {a b : MapEntry} (ha : a ∈ es.toList) (hb : b ∈ es.toList) (hk : a.born = b.born) : a = b := by
 have hp := ((MapKept.stamped_iff es cl).1 h).2.1
 rw [List.Nodup, List.pairwise_map] at hp
 obtain ⟨i, hi, rfl⟩ := List.mem_iff_getElem.1 ha
 obtain ⟨j, hj, rfl⟩ := List.mem_iff_getElem.1 hb
 rw [List.pairwise_iff_getElem] at hp
 rcases Nat.lt_trichotomy i j with h1 | h1 | h1
 ·exact absurd hk (hp i j hi hj h1)
 ·subst h1; rfl
 ·exact absurd hk.symm (hp j i hj hi h1)
theorem saw_new {es : Array MapEntry} {cl : Nat} (h : MapKept.Stamped es cl) {seen : Array Nat} {e : MapEntry} (he : e ∈ (leftOf es seen).toList) {q : Nat} (hk : e.key = .int .i64 q) : ¬ Saw es seen q := by
 obtain ⟨h1, h2⟩ := left_mem he
 rintro ⟨a, ha, hka, hs⟩
 rw [key_uniq h ha h1 (hka.trans hk.symm), h2] at hs
 cases hs
theorem saw_push {es : Array MapEntry} {cl : Nat} (h : MapKept.Stamped es cl) {seen : Array Nat} {e : MapEntry} (he : e ∈ (leftOf es seen).toList) {q : Nat} (hk : e.key = .int .i64 q) (r : Nat) : Saw es (seen.push e.born) r ↔ Saw es seen r ∨ r = q := by
 obtain ⟨h1, h2⟩ := left_mem he
 constructor
 ·rintro ⟨a, ha, hka, hs⟩
  have hs : a.born ∈ seen.push e.born := by simpa using hs
  rcases Array.mem_push.1 hs with h3 | h3
  ·exact .inl ⟨a, ha, hka, by simpa using h3⟩
  ·have := born_uniq h ha h1 h3
   subst this
   rw [hk] at hka
   simp only [Value.int.injEq, true_and] at hka
   exact .inr (by omega)
 ·rintro (⟨a, ha, hka, hs⟩ | rfl)
  ·have hs2 : a.born ∈ seen := by simpa using hs
   exact ⟨a, ha, hka, by simpa using Or.inl hs2⟩
  ·exact ⟨e, h1, hk, by simp⟩
end Go.Proofs.Ytlldhofcdfejnaa