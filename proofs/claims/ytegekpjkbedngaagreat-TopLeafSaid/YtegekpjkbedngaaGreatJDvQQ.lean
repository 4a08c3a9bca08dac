/- Contracts of functions of this program, and the plain facts that they rest on. No conditions. -/
import Derived.Test.YtegekpjkbedngaaGreatJDvAQ
set_option linter.unusedSectionVars false
set_option linter.unusedSimpArgs false
set_option linter.unusedVariables false
namespace Go.Proofs.YtegekpjkbedngaaGreat
open Go Go.Ab
attribute [local irreducible] callK callF loopQ vstep vskip pickE hideP
set_option maxRecDepth 100000
def NoteOk (A : Dv) (k : Nat) : Prop := ∀ x v, A.note k x = some v → ∃ r : Nat, r < A.n ∧ x = .int .i64 r ∧ 0 ≤ v ∧ v ≤ A.done r + (A.hist r).length
def kF (B : Dv) (k r : Nat) : Nat := match B.note k (.int .i64 r) with
 | some p => (p - B.done r).toNat
 | none => 0
open Classical in
noncomputable def fencS (B : Dv) (k : Nat) (S : Nat → Prop) : Dv := { B with per := contS B (fun r => if S r then kF B k r else 0), hist := fun r => if S r then (B.hist r).drop (kF B k r) else B.hist r, done := fun r => if S r then B.done r + kF B k r else B.done r }
open Classical in
theorem fencS_per (B : Dv) (k : Nat) (S : Nat → Prop) : (fencS B k S).per = contS B (fun r => if S r then kF B k r else 0) := rfl
theorem appL_loc (l : List (Int × Int)) (j : Nat) : ∀ ws ws' : List Int, ws.length = ws'.length → ws.getD j 0 = ws'.getD j 0 → (appL ws l).getD j 0 = (appL ws' l).getD j 0 := by
 induction l with
 | nil => intro ws ws' _ h; exact h
 | cons x l ih =>
  intro ws ws' hl h
  refine ih _ _ (by simp [hl]) ?_
  simp only [List.getD_eq_getElem?_getD, List.getElem?_set] at h ⊢
  by_cases e : (x.1 / 8).toNat = j
  ·simp only [e, if_true, hl]
  ·simp only [if_neg e, h]
theorem kF_le {B : Dv} {k r : Nat} (hn : NoteOk B k) (hl : 0 ≤ B.done r) : kF B k r ≤ (B.hist r).length := by
 unfold kF
 split
 ·rename_i p hp
  obtain ⟨r', h1, h2, h3, h4⟩ := hn _ _ hp
  simp only [Value.int.injEq, true_and] at h2
  have : r' = r := by omega
  subst this
  omega
 ·omega
open Classical in
theorem wf_fencS {B : Dv} (h : WF B) {k : Nat} (hn : NoteOk B k) (S : Nat → Prop) : WF (fencS B k S) := by
 refine ⟨h.n0, h.n6, ?_, h.cur, ?_, ?_, ?_, trivial⟩
 ·rw [fencS_per]; exact contS_len _ _
 ·intro r hr x hx
  have hx : x ∈ (if S r then (B.hist r).drop (kF B k r) else B.hist r) := hx
  split at hx
  ·exact h.hist r hr x (List.mem_of_mem_drop hx)
  ·exact h.hist r hr x hx
 ·intro r h1 h2
  show (if S r then (B.hist r).drop (kF B k r) else B.hist r) = []
  rw [h.top r h1 h2]; split <;> simp
 ·intro r hr
  have hl := h.len r hr
  have hk := kF_le (r := r) hn hl.1
  show 0 ≤ (if S r then B.done r + kF B k r else B.done r) ∧ (if S r then B.done r + kF B k r else B.done r) + ((if S r then (B.hist r).drop (kF B k r) else B.hist r).length : Int) ≤ 1000000000
  split
  ·rw [List.length_drop]; omega
  ·exact hl
theorem Dv.ext' {A B : Dv} (h1 : A.n = B.n) (h2 : A.per = B.per) (h3 : A.cur = B.cur) (h4 : A.hist = B.hist) (h5 : A.done = B.done) (h6 : A.err = B.err) (h7 : A.note = B.note) (h8 : A.off = B.off) (h9 : A.armed = B.armed) (h10 : A.left = B.left) (h11 : A.ex = B.ex) : A = B := by
 cases A; cases B; simp_all
open Classical in
theorem fencS_none {B : Dv} (h : WF B) {k : Nat} {S : Nat → Prop} (hS : ∀ r, r < 8 → S r → kF B k r = 0) (hS' : ∀ r, 8 ≤ r → ¬ S r) : fencS B k S = B := by
 refine Dv.ext' rfl ?_ rfl ?_ ?_ rfl rfl rfl rfl rfl rfl
 ·refine list_getD (by rw [fencS_per, contS_len, h.per]) fun j hj => ?_
  rw [fencS_per, contS_len] at hj
  rw [fencS_per, contS_get _ _ _ hj]
  have : (if S (j / 8) then kF B k (j / 8) else 0) = 0 := by
   split
   ·rename_i hs; exact hS _ (by have := h.n6; omega) hs
   ·rfl
  rw [this, List.take_zero]; rfl
 ·funext r
  show (if S r then (B.hist r).drop (kF B k r) else B.hist r) = B.hist r
  split
  ·rename_i hs
   rcases Nat.lt_or_ge r 8 with h6 | h6
   ·rw [hS r h6 hs, List.drop_zero]
   ·exact absurd hs (hS' r h6)
  ·rfl
 ·funext r
  show (if S r then B.done r + kF B k r else B.done r) = B.done r
  split
  ·rename_i hs
   rcases Nat.lt_or_ge r 8 with h6 | h6
   ·rw [hS r h6 hs]; simp
   ·exact absurd hs (hS' r h6)
  ·rfl
open Classical in
theorem fencS_step {B : Dv} (h : WF B) {k q : Nat} (hn : NoteOk B k) {S S' : Nat → Prop} (hq : q < B.n) (h0 : ¬ S q) (hS : ∀ r, S' r ↔ S r ∨ r = q) : (fencS B k S).persist q (kF B k q) = fencS B k S' := by
 have hq' : S' q := (hS q).2 (.inr rfl)
 have hne : ∀ r, r ≠ q → (S' r ↔ S r) := fun r hr => ⟨fun hs => ((hS r).1 hs).resolve_right hr, fun hs => (hS r).2 (.inl hs)⟩
 have hhq : (fencS B k S).hist q = B.hist q := if_neg h0
 refine Dv.ext' rfl ?_ rfl ?_ ?_ rfl rfl rfl rfl rfl rfl
 ·show appL (fencS B k S).per (((fencS B k S).hist q).take (kF B k q)) = (fencS B k S').per
  rw [hhq, fencS_per B k S']
  refine list_getD (by rw [appL_len, fencS_per, contS_len, contS_len]) fun j hj => ?_
  rw [appL_len, fencS_per, contS_len] at hj
  rw [contS_get _ _ _ hj]
  by_cases e : j / 8 = q
  ·rw [e, if_pos hq']
   refine appL_loc _ _ _ _ (by rw [fencS_per, contS_len, h.per]) ?_
   rw [fencS_per, contS_get _ _ _ hj, e, if_neg h0, List.take_zero]; rfl
  ·rw [appL_off _ j (fun x hx => ?_), fencS_per, contS_get _ _ _ hj]
   ·by_cases hs : S (j / 8)
    ·rw [if_pos hs, if_pos ((hne _ e).2 hs)]
    ·rw [if_neg hs, if_neg (fun hs' => hs ((hne _ e).1 hs'))]
   ·have := h.hist q (by have := h.n6; omega) x (List.mem_of_mem_take hx)
    omega
 ·funext r
  show (if r = q then ((fencS B k S).hist q).drop (kF B k q) else (fencS B k S).hist r) = if S' r then (B.hist r).drop (kF B k r) else B.hist r
  by_cases e : r = q
  ·subst e; rw [if_pos rfl, if_pos hq', hhq]
  ·rw [if_neg e]
   show (if S r then (B.hist r).drop (kF B k r) else B.hist r) = _
   by_cases hs : S r
   ·rw [if_pos hs, if_pos ((hne _ e).2 hs)]
   ·rw [if_neg hs, if_neg (fun hs' => hs ((hne _ e).1 hs'))]
 ·funext r
  show (if r = q then (fencS B k S).done q + kF B k q else (fencS B k S).done r) = if S' r then B.done r + kF B k r else B.done r
  have hdq : (fencS B k S).done q = B.done q := if_neg h0
  by_cases e : r = q
  ·subst e; rw [if_pos rfl, if_pos hq', hdq]
  ·rw [if_neg e]
   show (if S r then B.done r + kF B k r else B.done r) = _
   by_cases hs : S r
   ·rw [if_pos hs, if_pos ((hne _ e).2 hs)]
   ·rw [if_neg hs, if_neg (fun hs' => hs ((hne _ e).1 hs'))]
theorem persist_0 (A : Dv) (q : Nat) : A.persist q 0 = A := by
 refine Dv.ext' rfl ?_ rfl ?_ ?_ rfl rfl rfl rfl rfl rfl
 ·show appL A.per ((A.hist q).take 0) = A.per; rfl
 ·funext r; show (if r = q then (A.hist q).drop 0 else A.hist r) = A.hist r; split
  ·rename_i e; rw [e]; rfl
  ·rfl
 ·funext r; show (if r = q then A.done q + (0 : Nat) else A.done r) = A.done r; split
  ·rename_i e; rw [e]; simp
  ·rfl
def Saw (es : Array MapEntry) (seen : Array Nat) (r : Nat) : Prop := ∃ e, e ∈ es.toList ∧ e.key = .int .i64 r ∧ seen.contains e.born = true
theorem key_uniq {es : Array MapEntry} {cl : Nat} (h : MapKept.Stamped es cl) {a b : MapEntry} (ha : a ∈ es.toList) (hb : b ∈ es.toList) (hk : a.key = b.key) : a = b := by
 have hp := ((MapKept.stamped_iff es cl).1 h).2.2
 obtain ⟨i, hi, rfl⟩ := List.mem_iff_getElem.1 ha
 obtain ⟨j, hj, rfl⟩ := List.mem_iff_getElem.1 hb
 rw [List.pairwise_iff_getElem] at hp
 rcases Nat.lt_trichotomy i j with h1 | h1 | h1
 ·exact absurd hk (hp i j hi hj h1)
 ·subst h1; rfl
 ·exact absurd hk.symm (hp j i hj hi h1)
theorem left_mem {es : Array MapEntry} {seen : Array Nat} {e : MapEntry} (h : e ∈ (leftOf es seen).toList) : e ∈ es.toList ∧ seen.contains e.born = false := by
 simp only [leftOf, Array.toList_filter, List.mem_filter] at h
 exact ⟨h.1, by simpa using h.2⟩
theorem born_uniq {es : Array MapEntry} {cl : Nat} (h : MapKept.Stamped es cl) {a b : MapEntry} (ha : a ∈ es.toList) (hb : b ∈ es.toList) (hk : a.born = b.born) : a = b := by
 have hp := ((MapKept.stamped_iff es cl).1 h).2.1
 rw [List.Nodup, List.pairwise_map] at hp
 obtain ⟨i, hi, rfl⟩ := List.mem_iff_getElem.1 ha
 obtain ⟨j, hj, rfl⟩ := List.mem_iff_getElem.1 hb
 rw [List.pairwise_iff_getElem] at hp
 rcases Nat.lt_trichotomy i j with h1 | h1 | h1
 ·exact absurd hk (hp i j hi hj h1)
 ·subst h1; rfl
 ·exact absurd hk.symm (hp j i hj hi h1)
theorem saw_new {es : Array MapEntry} {cl : Nat} (h : MapKept.Stamped es cl) {seen : Array Nat} {e : MapEntry} (he : e ∈ (leftOf es seen).toList) {q : Nat} (hk : e.key = .int .i64 q) : ¬ Saw es seen q := by
 obtain ⟨h1, h2⟩ := left_mem he
 rintro ⟨a, ha, hka, hs⟩
 rw [key_uniq h ha h1 (hka.trans hk.symm), h2] at hs
 cases hs
theorem saw_push {es : Array MapEntry} {cl : Nat} (h : MapKept.Stamped es cl) {seen : Array Nat} {e : MapEntry} (he : e ∈ (leftOf es seen).toList) {q : Nat} (hk : e.key = .int .i64 q) (r : Nat) : Saw es (seen.push e.born) r ↔ Saw es seen r ∨ r = q := by
 obtain ⟨h1, h2⟩ := left_mem he
 constructor
 ·rintro ⟨a, ha, hka, hs⟩
  have hs : a.born ∈ seen.push e.born := by simpa using hs
  rcases Array.mem_push.1 hs with h3 | h3
  ·exact .inl ⟨a, ha, hka, by simpa using h3⟩
  ·have := born_uniq h ha h1 h3
   subst this
   rw [hk] at hka
   simp only [Value.int.injEq, true_and] at hka
   exact .inr (by omega)
 ·rintro (⟨a, ha, hka, hs⟩ | rfl)
  ·have hs2 : a.born ∈ seen := by simpa using hs
   exact ⟨a, ha, hka, by simpa using Or.inl hs2⟩
  ·exact ⟨e, h1, hk, by simp⟩
end Go.Proofs.YtegekpjkbedngaaGreat
namespace Go.Proofs.YtegekpjkbedngaaGreat
open Go Go.Ab
attribute [local irreducible] callK callF loopQ vstep vskip pickE hideP
set_option maxRecDepth 100000
theorem dPersist0 (es : Array MapEntry) (cl : Nat) (A : Dv) (J : JT) (h : WF A) (r k : Nat) (hr : r < A.n) (hk : k ≤ (A.hist r).length) (hj : (jk A J r).length ≤ 1000000000) : ACalls Tryz.prog 114 [.loc 0 0, .p (.v (.int .i64 r)), .p (.v (.int .i64 k))] [deO A 1 2 3 4, peO A, cuO A, liO A J 12, thO A 0 0 20, thO A 1 0 20, thO A 2 0 20, thO A 3 0 20, thO A 4 0 20, thO A 5 0 20, thO A 6 0 20, thO A 7 0 20, hiO A J 0, hiO A J 1, hiO A J 2, hiO A J 3, hiO A J 4, hiO A J 5, hiO A J 6, hiO A J 7, .mpx (some .i64) es cl, noO A 1, noO A 2, noO A 3, noO A 4, noO A 5, noO A 6, noO A 7] (.p (.tup [])) [deO (A.persist r k) 1 2 3 4, peO (A.persist r k), cuO (A.persist r k), liO (A.persist r k) (jper A J r k) 28, thO (A.persist r k) 0 0 20, thO (A.persist r k) 1 0 20, thO (A.persist r k) 2 0 20, thO (A.persist r k) 3 0 20, thO (A.persist r k) 4 0 20, thO (A.persist r k) 5 0 20, thO (A.persist r k) 6 0 20, thO (A.persist r k) 7 0 20, .dead, .dead, .dead, .dead, .dead, .dead, .dead, .dead, .mpx (some .i64) es cl, noO (A.persist r k) 1, noO (A.persist r k) 2, noO (A.persist r k) 3, noO (A.persist r k) 4, noO (A.persist r k) 5, noO (A.persist r k) 6, noO (A.persist r k) 7, hiO (A.persist r k) (jper A J r k) 0, hiO (A.persist r k) (jper A J r k) 1, hiO (A.persist r k) (jper A J r k) 2, hiO (A.persist r k) (jper A J r k) 3, hiO (A.persist r k) (jper A J r k) 4, hiO (A.persist r k) (jper A J r k) 5, hiO (A.persist r k) (jper A J r k) 6, hiO (A.persist r k) (jper A J r k) 7] := by
 refine acalls_mp 21 (some .i64) (.i .u64 (A.note 1)) rfl rfl ⟨_, rfl, rfl, by decide⟩ (Nat.le_of_ble_eq_true rfl) fun es1 cl1 _ => ?_
 refine acalls_mp 22 (some .i64) (.i .u64 (A.note 2)) rfl rfl ⟨_, rfl, rfl, by decide⟩ (Nat.le_of_ble_eq_true rfl) fun es2 cl2 _ => ?_
 refine acalls_mp 23 (some .i64) (.i .u64 (A.note 3)) rfl rfl ⟨_, rfl, rfl, by decide⟩ (Nat.le_of_ble_eq_true rfl) fun es3 cl3 _ => ?_
 refine acalls_mp 24 (some .i64) (.i .u64 (A.note 4)) rfl rfl ⟨_, rfl, rfl, by decide⟩ (Nat.le_of_ble_eq_true rfl) fun es4 cl4 _ => ?_
 refine acalls_mp 25 (some .i64) (.i .u64 (A.note 5)) rfl rfl ⟨_, rfl, rfl, by decide⟩ (Nat.le_of_ble_eq_true rfl) fun es5 cl5 _ => ?_
 refine acalls_mp 26 (some .i64) (.i .u64 (A.note 6)) rfl rfl ⟨_, rfl, rfl, by decide⟩ (Nat.le_of_ble_eq_true rfl) fun es6 cl6 _ => ?_
 refine acalls_mp 27 (some .i64) (.i .u64 (A.note 7)) rfl rfl ⟨_, rfl, rfl, by decide⟩ (Nat.le_of_ble_eq_true rfl) fun es7 cl7 _ => ?_
 exact dPersistX A J (fun i => match i with | 0 => es | 1 => es1 | 2 => es2 | 3 => es3 | 4 => es4 | 5 => es5 | 6 => es6 | 7 => es7 | _ => #[]) (fun i => match i with | 0 => cl | 1 => cl1 | 2 => cl2 | 3 => cl3 | 4 => cl4 | 5 => cl5 | 6 => cl6 | 7 => cl7 | _ => 0) h r k hr hk hj
end Go.Proofs.YtegekpjkbedngaaGreat
namespace Go.Proofs.YtegekpjkbedngaaGreat
open Go Go.Ab
attribute [local irreducible] callK callF loopQ vstep vskip pickE hideP
set_option maxRecDepth 100000
@[go_sem high] theorem nthM {a0 a1 a2 a3 a4 a5 a6 a7 a8 a9 a10 a11 a12 a13 a14 a15 a16 a17 a18 a19 : Option Ob} {N : Nat → Value → Option Int} {k : Nat} {l : List (Option Ob)} (hk : k < 8) : nth (a0 :: a1 :: a2 :: a3 :: a4 :: a5 :: a6 :: a7 :: a8 :: a9 :: a10 :: a11 :: a12 :: a13 :: a14 :: a15 :: a16 :: a17 :: a18 :: a19 :: some (.mp (some .i64) (.i .u64 (N 0))) :: some (.mp (some .i64) (.i .u64 (N 1))) :: some (.mp (some .i64) (.i .u64 (N 2))) :: some (.mp (some .i64) (.i .u64 (N 3))) :: some (.mp (some .i64) (.i .u64 (N 4))) :: some (.mp (some .i64) (.i .u64 (N 5))) :: some (.mp (some .i64) (.i .u64 (N 6))) :: some (.mp (some .i64) (.i .u64 (N 7))) :: l) (20 + k) = some (some (.mp (some .i64) (.i .u64 (N k)))) := by
 rcases lt8 hk with rfl | rfl | rfl | rfl | rfl | rfl | rfl | rfl <;> rfl
@[go_sem high] theorem setM {a0 a1 a2 a3 a4 a5 a6 a7 a8 a9 a10 a11 a12 a13 a14 a15 a16 a17 a18 a19 : Option Ob} {N : Nat → Value → Option Int} {k : Nat} {f : Value → Option Int} {l : List (Option Ob)} (hk : k < 8) : setL (a0 :: a1 :: a2 :: a3 :: a4 :: a5 :: a6 :: a7 :: a8 :: a9 :: a10 :: a11 :: a12 :: a13 :: a14 :: a15 :: a16 :: a17 :: a18 :: a19 :: some (.mp (some .i64) (.i .u64 (N 0))) :: some (.mp (some .i64) (.i .u64 (N 1))) :: some (.mp (some .i64) (.i .u64 (N 2))) :: some (.mp (some .i64) (.i .u64 (N 3))) :: some (.mp (some .i64) (.i .u64 (N 4))) :: some (.mp (some .i64) (.i .u64 (N 5))) :: some (.mp (some .i64) (.i .u64 (N 6))) :: some (.mp (some .i64) (.i .u64 (N 7))) :: l) (20 + k) (some (.mp (some .i64) (.i .u64 f))) = a0 :: a1 :: a2 :: a3 :: a4 :: a5 :: a6 :: a7 :: a8 :: a9 :: a10 :: a11 :: a12 :: a13 :: a14 :: a15 :: a16 :: a17 :: a18 :: a19 :: some (.mp (some .i64) (.i .u64 (upd N k f 0))) :: some (.mp (some .i64) (.i .u64 (upd N k f 1))) :: some (.mp (some .i64) (.i .u64 (upd N k f 2))) :: some (.mp (some .i64) (.i .u64 (upd N k f 3))) :: some (.mp (some .i64) (.i .u64 (upd N k f 4))) :: some (.mp (some .i64) (.i .u64 (upd N k f 5))) :: some (.mp (some .i64) (.i .u64 (upd N k f 6))) :: some (.mp (some .i64) (.i .u64 (upd N k f 7))) :: l := by
 rcases lt8 hk with rfl | rfl | rfl | rfl | rfl | rfl | rfl | rfl <;> rfl
@[go_sem high] theorem nthL0 {A : Dv} {J : JT} {r : Nat} (hr : r < 8) : nth [AV.p (.v (.int .u64 (A.done 0))), .sl 12 2 (jk A J 0).length (A.hist 0).length, .p (.v (.int .u64 (A.done 1))), .sl 13 2 (jk A J 1).length (A.hist 1).length, .p (.v (.int .u64 (A.done 2))), .sl 14 2 (jk A J 2).length (A.hist 2).length, .p (.v (.int .u64 (A.done 3))), .sl 15 2 (jk A J 3).length (A.hist 3).length, .p (.v (.int .u64 (A.done 4))), .sl 16 2 (jk A J 4).length (A.hist 4).length, .p (.v (.int .u64 (A.done 5))), .sl 17 2 (jk A J 5).length (A.hist 5).length, .p (.v (.int .u64 (A.done 6))), .sl 18 2 (jk A J 6).length (A.hist 6).length, .p (.v (.int .u64 (A.done 7))), .sl 19 2 (jk A J 7).length (A.hist 7).length] (r * 2) = some (.p (.v (.int .u64 (A.done r)))) := by
 rcases lt6 hr with rfl | rfl | rfl | rfl | rfl | rfl | rfl | rfl <;> rfl
@[go_sem ↓ high] theorem nthL1 {A : Dv} {J : JT} {r : Nat} (hr : r < 8) : nth [AV.p (.v (.int .u64 (A.done 0))), .sl 12 2 (jk A J 0).length (A.hist 0).length, .p (.v (.int .u64 (A.done 1))), .sl 13 2 (jk A J 1).length (A.hist 1).length, .p (.v (.int .u64 (A.done 2))), .sl 14 2 (jk A J 2).length (A.hist 2).length, .p (.v (.int .u64 (A.done 3))), .sl 15 2 (jk A J 3).length (A.hist 3).length, .p (.v (.int .u64 (A.done 4))), .sl 16 2 (jk A J 4).length (A.hist 4).length, .p (.v (.int .u64 (A.done 5))), .sl 17 2 (jk A J 5).length (A.hist 5).length, .p (.v (.int .u64 (A.done 6))), .sl 18 2 (jk A J 6).length (A.hist 6).length, .p (.v (.int .u64 (A.done 7))), .sl 19 2 (jk A J 7).length (A.hist 7).length] (r * 2 + 1) = some (.sl (12 + r) 2 (jk A J r).length (A.hist r).length) := by
 rcases lt6 hr with rfl | rfl | rfl | rfl | rfl | rfl | rfl | rfl <;> rfl
noncomputable def Dv.noted (A : Dv) (k r : Nat) : Dv := { A with note := upd A.note k (updF (A.note k) (.int .i64 r) (some (A.done r + (A.hist r).length))) }
def Dv.isB (A : Dv) (o : Int) : Bool := decide (o < ((64 * A.n : Nat) : Int))
noncomputable def Dv.flush (A : Dv) (k : Nat) (o : Int) : Dv := if A.cntB (A.isB o) = true then (A.cnt k (A.isB o)).noted k (o / 64).toNat else A.cnt k (A.isB o)
end Go.Proofs.YtegekpjkbedngaaGreat
namespace Go.Proofs.YtegekpjkbedngaaGreat
open Go Go.Ab
attribute [local irreducible] callK callF loopQ vstep vskip pickE hideP
set_option maxRecDepth 100000
@[go_sem high] theorem nthL29 {A : Dv} {J : JT} {r : Nat} (hr : r < 8) : nth [AV.p (.v (.int .u64 (A.done 0))), .sl 29 2 (jk A J 0).length (A.hist 0).length, AV.p (.v (.int .u64 (A.done 1))), .sl 30 2 (jk A J 1).length (A.hist 1).length, AV.p (.v (.int .u64 (A.done 2))), .sl 31 2 (jk A J 2).length (A.hist 2).length, AV.p (.v (.int .u64 (A.done 3))), .sl 32 2 (jk A J 3).length (A.hist 3).length, AV.p (.v (.int .u64 (A.done 4))), .sl 33 2 (jk A J 4).length (A.hist 4).length, AV.p (.v (.int .u64 (A.done 5))), .sl 34 2 (jk A J 5).length (A.hist 5).length, AV.p (.v (.int .u64 (A.done 6))), .sl 35 2 (jk A J 6).length (A.hist 6).length, AV.p (.v (.int .u64 (A.done 7))), .sl 36 2 (jk A J 7).length (A.hist 7).length] (r * 2) = some (.p (.v (.int .u64 (A.done r)))) := by
 rcases lt6 hr with rfl | rfl | rfl | rfl | rfl | rfl | rfl | rfl <;> rfl
theorem left_lt {es : Array MapEntry} {seen : Array Nat} {e : MapEntry} (he : e ∈ (leftOf es seen).toList) : (leftOf es (seen.push e.born)).size < (leftOf es seen).size := by
 obtain ⟨h1, h2⟩ := left_mem he
 have := filt_lt (fun x : MapEntry => !seen.contains x.born) (fun x => !(seen.push e.born).contains x.born) es.toList (fun x _ hx => by
  simp at hx ⊢
  exact hx.1) e h1 (by simpa using h2) (by simp)
 have e2 : ∀ s : Array Nat, (leftOf es s).size = (es.toList.filter fun x => !s.contains x.born).length := fun s => by
  rw [← Array.toList_filter, Array.length_toList]; rfl
 rw [e2, e2]; exact this
open Classical in
theorem fencS_eq {B : Dv} {k : Nat} {S S' : Nat → Prop} (h : ∀ r, (if S r then kF B k r else 0) = if S' r then kF B k r else 0) : fencS B k S = fencS B k S' := by
 refine Dv.ext' rfl ?_ rfl ?_ ?_ rfl rfl rfl rfl rfl rfl
 ·rw [fencS_per, fencS_per, show (fun r => if S r then kF B k r else 0) = fun r => if S' r then kF B k r else 0 from funext h]
 ·funext r
  have e : ∀ T : Nat → Prop, (fencS B k T).hist r = (B.hist r).drop (if T r then kF B k r else 0) := fun T => by
   show (if T r then (B.hist r).drop (kF B k r) else B.hist r) = _
   split <;> simp
  rw [e, e, h r]
 ·funext r
  have e : ∀ T : Nat → Prop, (fencS B k T).done r = B.done r + ((if T r then kF B k r else 0 : Nat) : Int) := fun T => by
   show (if T r then B.done r + kF B k r else B.done r) = _
   split <;> simp
  rw [e, e, h r]
theorem entry_is {B : Dv} {k : Nat} (hn : NoteOk B k) {es : Array MapEntry} {cl : Nat} (hm : MapIs (some .i64) (.i .u64 (B.note k)) es cl) {e : MapEntry} (he : e ∈ es.toList) :
  ∃ (r : Nat) (v : Int), r < B.n ∧ e.key = .int .i64 r ∧ B.note k (.int .i64 r) = some v ∧ e.val = .int .u64 v ∧ 0 ≤ v ∧ v ≤ B.done r + (B.hist r).length := by
 have h1 := hm.has e he
 simp only [EK.has] at h1
 obtain ⟨v, hv⟩ := Option.isSome_iff_exists.1 h1
 obtain ⟨r, h2, h3, h4, h5⟩ := hn _ _ hv
 refine ⟨r, v, h2, h3, by rw [← h3]; exact hv, ?_, h4, h5⟩
 rw [hm.val e he]
 simp only [EK.get, hv, Option.getD_some]
theorem fencS_all {B : Dv} {k : Nat} {es : Array MapEntry} {cl : Nat} (hd : ∀ r, r < 8 → 0 ≤ B.done r) (hn6 : B.n ≤ 8) (hn : NoteOk B k) (hm : MapIs (some .i64) (.i .u64 (B.note k)) es cl) {seen : Array Nat} (h0 : (leftOf es seen).size = 0) : fencS B k (Saw es seen) = fencS B k (fun _ => True) := by
 refine fencS_eq fun r => ?_
 rw [if_pos trivial]
 split
 ·rfl
 ·rename_i hs
  unfold kF
  split
  ·rename_i p hp
   by_cases hex : ∃ e, e ∈ es.toList ∧ e.key = .int .i64 r
   ·obtain ⟨e, he, hk⟩ := hex
    refine absurd ⟨e, he, hk, ?_⟩ hs
    have hnl : e ∉ (leftOf es seen).toList := by
     have : (leftOf es seen).toList = [] := List.length_eq_zero_iff.1 (by rw [Array.length_toList]; exact h0)
     rw [this]; simp
    simp only [leftOf, Array.toList_filter, List.mem_filter, not_and] at hnl
    simpa using hnl he
   ·have ho := hm.out (.int .i64 r) (by simp [keyD, MapKept.IsKey]) (fun e he hk => hex ⟨e, he, hk⟩)
    simp only [EK.get, EK.zero, hp, Option.getD_some, Value.int.injEq, true_and] at ho
    obtain ⟨r', h1, h2, _, _⟩ := hn _ _ hp
    simp only [Value.int.injEq, true_and] at h2
    have := hd r (by omega)
    omega
  ·rfl
noncomputable def Dv.fence (A : Dv) (k : Nat) : Dv := if A.cntB true = true then { fencS (A.cnt k true) k (fun _ => True) with note := upd (A.cnt k true).note k (fun _ => none) } else A.cnt k true
theorem NoteOk.cnt {A : Dv} {q : Nat} (h : NoteOk A q) (k : Nat) (v : Bool) : NoteOk (A.cnt k v) q := by
 obtain ⟨e1, e2, e3, e4, e5, e6⟩ := cnt_p A k v
 unfold NoteOk
 rw [e1, e4, e5, e6]
 exact h
def JOk (A : Dv) (J : JT) : Prop := ∀ r, r < 8 → ((jk A J r).length : Int) ≤ A.done r
theorem JOk.persist {A : Dv} {J : JT} (h : JOk A J) (h0 : ∀ r, r < 8 → 0 ≤ A.done r) (q k : Nat) (hk : k ≤ (A.hist q).length) : JOk (A.persist q k) (jper A J q k) := by
 intro r hr
 have h1 := h r hr
 have h2 := h0 r hr
 rw [per_done]
 by_cases e : k < (A.hist q).length
 ·rw [jk_per A J q k r e]
  by_cases hq : r = q
  ·subst hq; simp only [if_true, List.length_append, List.length_take]; omega
  ·simp only [if_neg hq]; exact h1
 ·rw [jk_perA A J q k r (by omega)]
  by_cases hq : r = q
  ·subst hq; simp only [if_true, List.length_nil]; omega
  ·simp only [if_neg hq]; exact h1
end Go.Proofs.YtegekpjkbedngaaGreat
namespace Go.Proofs.YtegekpjkbedngaaGreat
set_option maxHeartbeats 4000000
set_option maxRecDepth 100000
open Go Go.Ab
attribute [local irreducible] callK callF loopQ vstep vskip pickE hideP
attribute [local go_sem] eU deO peO cuO liO thO hiO noO
def byW (ws : List Int) (j : Nat) : Int := IntKind.u8.wrap (ws.getD (j / 8) 0 / 2 ^ (j % 8 * 8))
def byL (ws : List Int) (m i : Nat) : List PV := (List.range m).map fun j => .v (.int .u8 (if j < i then byW ws j else 0))
theorem byL_0 (ws : List Int) (m : Nat) : List.replicate m (PV.v (.int .u8 0)) = byL ws m 0 := by
 unfold byL
 apply List.ext_getElem (by simp)
 intro i h1 h2
 simp
theorem byL_len (ws : List Int) (m i : Nat) : (byL ws m i).length = m := by simp [byL]
theorem byL_s (ws : List Int) (m i : Nat) : (byL ws m i).set i (.v (.int .u8 (byW ws i))) = byL ws m (i + 1) := by
 unfold byL
 apply List.ext_getElem (by simp)
 intro j h1 h2
 rw [List.getElem_set]
 simp only [List.getElem_map, List.getElem_range]
 by_cases e : i = j
 ·subst e; rw [if_pos rfl, if_pos (by omega)]
 ·rw [if_neg e]
  by_cases h : j < i
  ·rw [if_pos h, if_pos (by omega)]
  ·rw [if_neg h, if_neg (by omega)]
theorem dBytes (ws : List Int) (hw : ws.length ≤ 100000) : ACalls Tryz.prog 74 [.sl 0 1 0 ws.length] [.arr 1 (ws.map eU)] (.sl 1 1 0 (8 * ws.length)) [.arr 1 (ws.map eU), .arr 1 (byL ws (8 * ws.length) (8 * ws.length))] := by
 refine yA (E := E) (fn := Tryz.f74) 30 [.tmp 2] rfl rfl rfl rfl (by decide) rfl rfl ?_
 have hq : IntKind.i64.wrap ((ws.length : Int) * 8) = ((8 * ws.length : Nat) : Int) := by rw [IntKind.wrap_i64]; omega
 repeat' (first
  | (with_reducible first | apply zY | apply zT | apply zM | apply zN | apply zO | refine chk_ok (by kernel_rfl) ?_)
  | ((with_reducible first | apply zP | apply zQ | apply zR | apply zL) <;> intro h)
  | ((with_reducible show False); omega)
  | ((first | (with_reducible first | apply zW | apply zV | apply zU | apply zS | apply zX | show VX _ _ _ _ _ _ _ | show vstep _ _ _ _ _ | show vskip _ _ _ | show withV _ _) | ((with_reducible show endA _ _ _ _ _ _ _); simp -implicitDefEqProofs only [endA]) | (with_reducible first | refine zB default (by first | omega | (simp only [LN, hq]; omega)) (by first | omega | (simp only [LN, hq]; omega)) ?_ | refine zC default (by first | omega | (simp only [LN, hq]; omega)) ?_ | refine And.intro (by first | decide | omega | assumption | (simp only [LN, hq]; omega)) ?_) | ((with_reducible show pickE _ _ _); first | refine zA _ ⟨by omega, by rfl⟩ ?_ | refine zA _ (by rfl) ?_) | fail); try simp -dsimp -implicitDefEqProofs (maxSteps := 1000000) (disch := first | omega | (simp only [LN, hq]; omega)) only [go_sem, hq])
  | fail)
 refine r_loopA (α := Nat) [0, 3, 10] (fun i b => [(11, aI i)]) (fun i b => [(3, .arr 1 (byL ws (8 * ws.length) i))]) (fun i => []) (fun i => i ≤ 8 * ws.length) (fun i => 8 * ws.length - i) (0) ?h0_1 ?hs0_1 ?I_1 ?hI_1 ?round_1
 case hI_1 => intro x; (simp -dsimp -implicitDefEqProofs (maxSteps := 1000000) (disch := first | omega | (simp only [LN]; omega)) only [go_sem]) <;> exact rfl
 case hs0_1 => refine wk_auto ?_; (simp -dsimp -implicitDefEqProofs (maxSteps := 1000000) (disch := first | omega | (simp only [LN, byL_0 ws]; omega)) only [go_sem, byL_0 ws]) <;> (try omega)
 case h0_1 => exact Nat.zero_le _
 case round_1 =>
  intro i h1
  by_cases hi : i < 8 * ws.length
  ·have e1 : IntKind.i64.wrap ((i : Int).tdiv 8) = ((i / 8 : Nat) : Int) := by rw [show ((i : Int).tdiv 8) = ((i / 8 : Nat) : Int) from rfl, IntKind.wrap_i64]; omega
   have e2 : (i : Int).tmod 8 = ((i % 8 : Nat) : Int) := rfl
   have e3 : IntKind.i64.wrap (((i % 8 : Nat) : Int) * 8) = ((i % 8 * 8 : Nat) : Int) := by rw [IntKind.wrap_i64]; omega
   have e4 : ((i : Int) / 8).toNat = i / 8 := by omega
   have e5 : (IntKind.u64.wrap ((i % 8 * 8 : Nat) : Int)).toNat = i % 8 * 8 := by rw [IntKind.wrap_u64]; omega
   have e6 : min (i % 8 * 8) 64 = i % 8 * 8 := by omega
   have hs := byL_s ws (8 * ws.length) i
   have hl := byL_len ws (8 * ws.length) i
   unfold byW at hs
   change (byL ws (8 * ws.length) i).set i (.v (.int .u8 (IntKind.u8.wrap (ws.getD (i / 8) default / 2 ^ (i % 8 * 8))))) = _ at hs
   repeat' (first
    | (with_reducible first | apply zY | apply zT | apply zM | apply zN | apply zO | refine chk_ok (by kernel_rfl) ?_)
    | ((with_reducible first | apply zP | apply zQ | apply zR | apply zL) <;> intro h <;> try (exfalso; first | omega | exact h rfl | (revert h; decide) | (cases h; done)))
    | ((with_reducible show False); omega)
    | ((first | (with_reducible first | apply zW | apply zV | apply zU | apply zS | apply zX | show VX _ _ _ _ _ _ _ | show vstep _ _ _ _ _ | show vskip _ _ _ | show withV _ _) | ((with_reducible show endA _ _ _ _ _ _ _); simp -implicitDefEqProofs only [endA]) | (with_reducible first | refine zB default (by first | omega | (simp only [LN, e1, e2, e3, e4, e5, e6, hl]; omega)) (by first | omega | (simp only [LN, e1, e2, e3, e4, e5, e6, hl]; omega)) ?_ | refine zC default (by first | omega | (simp only [LN, e1, e2, e3, e4, e5, e6, hl]; omega)) ?_ | refine And.intro (by first | decide | omega | assumption | (simp only [LN, e1, e2, e3, e4, e5, e6, hl]; omega)) ?_) | ((with_reducible show pickE _ _ _); first | refine zA _ ⟨by omega, by rfl⟩ ?_ | refine zA _ (by rfl) ?_) | fail); try simp -dsimp -implicitDefEqProofs (maxSteps := 1000000) (disch := first | omega | (simp only [LN, e1, e2, e3, e4, e5, e6, hl]; omega)) only [go_sem, e1, e2, e3, e4, e5, e6, hl])
    | fail)
   all_goals first | omega | (refine zZ (i + 1) ?_ ?_ ?_; (omega); (show _ < _; omega); (simp -dsimp -implicitDefEqProofs (maxSteps := 1000000) (disch := first | omega | (simp only [LN, e4, e5, e6, hs]; omega)) only [go_sem, e4, e5, e6, hs]; try trivial))
  ·obtain rfl : i = 8 * ws.length := by omega
   repeat' (first
    | (with_reducible first | apply zY | apply zT | apply zM | apply zN | apply zO | refine chk_ok (by kernel_rfl) ?_)
    | ((with_reducible first | apply zP | apply zQ | apply zR | apply zL) <;> intro h <;> try (exfalso; first | omega | exact h rfl | (revert h; decide) | (cases h; done)))
    | ((with_reducible show False); omega)
    | ((first | (with_reducible first | apply zW | apply zV | apply zU | apply zS | apply zX | show VX _ _ _ _ _ _ _ | show vstep _ _ _ _ _ | show vskip _ _ _ | show withV _ _) | ((with_reducible show endA _ _ _ _ _ _ _); simp -implicitDefEqProofs only [endA]) | (with_reducible first | refine zB default (by first | omega | (simp only [LN, byL_len]; omega)) (by first | omega | (simp only [LN, byL_len]; omega)) ?_ | refine zC default (by first | omega | (simp only [LN, byL_len]; omega)) ?_ | refine And.intro (by first | decide | omega | assumption | (simp only [LN, byL_len]; omega)) ?_) | ((with_reducible show pickE _ _ _); first | refine zA _ ⟨by omega, by rfl⟩ ?_ | refine zA _ (by rfl) ?_) | fail); try simp -dsimp -implicitDefEqProofs (maxSteps := 1000000) (disch := first | omega | (simp only [LN, byL_len]; omega)) only [go_sem, byL_len])
    | fail)
   all_goals first | omega | rfl
theorem dPers6 (A : Dv) (J : JT) (h : WF A) : ACalls Tryz.prog 58 [.loc 0 0] [deO A 1 2 3 4, peO A, cuO A, liO A J 12, thO A 0 0 20, thO A 1 0 20, thO A 2 0 20, thO A 3 0 20, thO A 4 0 20, thO A 5 0 20, thO A 6 0 20, thO A 7 0 20, hiO A J 0, hiO A J 1, hiO A J 2, hiO A J 3, hiO A J 4, hiO A J 5, hiO A J 6, hiO A J 7, noO A 0, noO A 1, noO A 2, noO A 3, noO A 4, noO A 5, noO A 6, noO A 7] (.sl 28 1 0 (64 * A.n)) [deO A 1 2 3 4, peO A, cuO A, liO A J 12, thO A 0 0 20, thO A 1 0 20, thO A 2 0 20, thO A 3 0 20, thO A 4 0 20, thO A 5 0 20, thO A 6 0 20, thO A 7 0 20, hiO A J 0, hiO A J 1, hiO A J 2, hiO A J 3, hiO A J 4, hiO A J 5, hiO A J 6, hiO A J 7, noO A 0, noO A 1, noO A 2, noO A 3, noO A 4, noO A 5, noO A 6, noO A 7, .arr 1 (byL A.per (64 * A.n) (64 * A.n))] := by
 refine yA (E := E) (fn := Tryz.f58) 10 [.tmp 2] rfl rfl rfl rfl (by decide) rfl rfl ?_
 have h6 := h.n6
 have hp := h.per
 have k := dBytes A.per (by rw [h.per]; omega)
 rw [h.per, show 8 * (8 * A.n) = 64 * A.n by omega] at k
 repeat' (first
  | (with_reducible first | apply zY | apply zT | apply zM | apply zN | apply zO | refine chk_ok (by kernel_rfl) ?_)
  | ((with_reducible first | apply zP | apply zQ | apply zR | apply zL) <;> intro h)
  | ((with_reducible show False); omega)
  | ((first | (with_reducible first | apply zW | apply zV | apply zU | apply zS | apply zX | show VX _ _ _ _ _ _ _ | show vstep _ _ _ _ _ | show vskip _ _ _ | show withV _ _) | ((with_reducible show endA _ _ _ _ _ _ _); simp -implicitDefEqProofs only [endA]) | (with_reducible first | refine zB default (by first | omega | (simp only [LN]; omega)) (by first | omega | (simp only [LN]; omega)) ?_ | refine zC default (by first | omega | (simp only [LN]; omega)) ?_ | refine And.intro (by first | decide | omega | assumption | (simp only [LN]; omega)) ?_) | (with_reducible first | apply zG | apply zH | apply zI | apply hidePI_own) | ((with_reducible apply zJ); (first | exact k | fail)) | ((with_reducible show pickE _ _ _); first | refine zA _ ⟨by omega, by rfl⟩ ?_ | refine zA _ (by rfl) ?_) | fail); try simp -dsimp -implicitDefEqProofs (maxSteps := 1000000) (disch := first | omega | (simp only [LN]; omega)) only [go_sem])
  | fail)
end Go.Proofs.YtegekpjkbedngaaGreat
namespace Go.Proofs.YtegekpjkbedngaaGreat
set_option maxHeartbeats 4000000
set_option maxRecDepth 100000
open Go Go.Ab
attribute [local irreducible] callK callF loopQ vstep vskip pickE hideP
attribute [local go_sem] eU deO peO cuO liO thO hiO noO
def dirL (A : Dv) (i : Nat) : List Nat := (List.range i).filter fun r => decide (A.hist r ≠ [])
theorem dirL_s (A : Dv) (i : Nat) : dirL A (i + 1) = dirL A i ++ if A.hist i = [] then [] else [i] := by
 unfold dirL
 rw [List.range_succ, List.filter_append]
 congr 1
 by_cases h : A.hist i = [] <;> simp [h]
def eNd (n : Nat) : PV := .v (.int .i64 n)
theorem dirL_len (A : Dv) (i : Nat) : (dirL A i).length ≤ i := by
 unfold dirL
 exact Nat.le_trans (List.length_filter_le _ _) (by simp)
theorem dDirty6 (A : Dv) (J : JT) (h : WF A) : ACalls Tryz.prog 59 [.loc 0 0] [deO A 1 2 3 4, peO A, cuO A, liO A J 12, thO A 0 0 20, thO A 1 0 20, thO A 2 0 20, thO A 3 0 20, thO A 4 0 20, thO A 5 0 20, thO A 6 0 20, thO A 7 0 20, hiO A J 0, hiO A J 1, hiO A J 2, hiO A J 3, hiO A J 4, hiO A J 5, hiO A J 6, hiO A J 7, noO A 0, noO A 1, noO A 2, noO A 3, noO A 4, noO A 5, noO A 6, noO A 7] (.sl 28 1 0 (dirL A A.n).length) [deO A 1 2 3 4, peO A, cuO A, liO A J 12, thO A 0 0 20, thO A 1 0 20, thO A 2 0 20, thO A 3 0 20, thO A 4 0 20, thO A 5 0 20, thO A 6 0 20, thO A 7 0 20, hiO A J 0, hiO A J 1, hiO A J 2, hiO A J 3, hiO A J 4, hiO A J 5, hiO A J 6, hiO A J 7, noO A 0, noO A 1, noO A 2, noO A 3, noO A 4, noO A 5, noO A 6, noO A 7, .arr 1 ((dirL A A.n).map eNd)] := by
 refine yA (E := E) (fn := Tryz.f59) 31 [.tmp 2] rfl rfl rfl rfl (by decide) rfl rfl ?_
 have h6 := h.n6
 repeat' (first
  | (with_reducible first | apply zY | apply zT | apply zM | apply zN | apply zO | refine chk_ok (by kernel_rfl) ?_)
  | ((with_reducible first | apply zP | apply zQ | apply zR | apply zL) <;> intro h)
  | ((with_reducible show False); omega)
  | ((first | (with_reducible first | apply zW | apply zV | apply zU | apply zS | apply zX | show VX _ _ _ _ _ _ _ | show vstep _ _ _ _ _ | show vskip _ _ _ | show withV _ _) | ((with_reducible show endA _ _ _ _ _ _ _); simp -implicitDefEqProofs only [endA]) | (with_reducible first | refine zB default (by first | omega | (simp only [LN]; omega)) (by first | omega | (simp only [LN]; omega)) ?_ | refine zC default (by first | omega | (simp only [LN]; omega)) ?_ | refine And.intro (by first | decide | omega | assumption | (simp only [LN]; omega)) ?_) | ((with_reducible show pickE _ _ _); first | refine zA _ ⟨by omega, by rfl⟩ ?_ | refine zA _ (by rfl) ?_) | fail); try simp -dsimp -implicitDefEqProofs (maxSteps := 1000000) (disch := first | omega | (simp only [LN]; omega)) only [go_sem])
  | fail)
 refine r_loopA (α := Nat) [0, 11] (fun i b => [(3, .sl b 1 0 (dirL A i).length), (12, aI i)]) (fun i b => []) (fun i => [.arr 1 ((dirL A i).map eNd)]) (fun i => i ≤ A.n) (fun i => A.n - i) (0) ?h0_1 ?hs0_1 ?I_1 ?hI_1 ?round_1
 case hI_1 => intro x; (simp -dsimp -implicitDefEqProofs (maxSteps := 1000000) (disch := first | omega | (simp only [LN]; omega)) only [go_sem]) <;> exact rfl
 case hs0_1 => refine wk_auto ?_; (simp -dsimp -implicitDefEqProofs (maxSteps := 1000000) (disch := first | omega | (simp only [LN, show dirL A 0 = [] from rfl]; omega)) only [go_sem, show dirL A 0 = [] from rfl]) <;> (try omega)
 case h0_1 => exact Nat.zero_le _
 case round_1 =>
  intro i h1
  have hl := dirL_len A i
  have hs := dirL_s A i
  by_cases hi : i < A.n
  ·by_cases hd : A.hist i = []
   ·have h0 : (A.hist i).length = 0 := by rw [hd]; rfl
    rw [if_pos hd, List.append_nil] at hs
    repeat' (first
     | (with_reducible first | apply zY | apply zT | apply zM | apply zN | apply zO | refine chk_ok (by kernel_rfl) ?_)
     | ((with_reducible first | apply zP | apply zQ | apply zR | apply zL) <;> intro h <;> try (exfalso; first | omega | exact h rfl | (revert h; decide) | (cases h; done)))
     | ((with_reducible show False); omega)
     | ((first | (with_reducible first | apply zW | apply zV | apply zU | apply zS | apply zX | show VX _ _ _ _ _ _ _ | show vstep _ _ _ _ _ | show vskip _ _ _ | show withV _ _) | ((with_reducible show endA _ _ _ _ _ _ _); simp -implicitDefEqProofs only [endA]) | (with_reducible first | refine zB default (by first | omega | (simp only [LN]; omega)) (by first | omega | (simp only [LN]; omega)) ?_ | refine zC default (by first | omega | (simp only [LN]; omega)) ?_ | refine And.intro (by first | decide | omega | assumption | (simp only [LN]; omega)) ?_) | ((with_reducible show pickE _ _ _); first | refine zA _ ⟨by omega, by rfl⟩ ?_ | refine zA _ (by rfl) ?_) | fail); try simp -dsimp -implicitDefEqProofs (maxSteps := 1000000) (disch := first | omega | (simp only [LN]; omega)) only [go_sem])
     | fail)
    all_goals first | omega | (refine zZ (i + 1) ?_ ?_ ?_; (omega); (show _ < _; omega); (simp -dsimp -implicitDefEqProofs (maxSteps := 1000000) (disch := first | omega | (simp only [LN, hs]; omega)) only [go_sem, hs]; try trivial))
   ·have h0 : 0 < (A.hist i).length := List.length_pos_iff.2 hd
    rw [if_neg hd] at hs
    repeat' (first
     | (with_reducible first | apply zY | apply zT | apply zM | apply zN | apply zO | refine chk_ok (by kernel_rfl) ?_)
     | ((with_reducible first | apply zP | apply zQ | apply zR | apply zL) <;> intro h <;> try (exfalso; first | omega | exact h rfl | (revert h; decide) | (cases h; done)))
     | ((with_reducible show False); omega)
     | ((first | (with_reducible first | apply zW | apply zV | apply zU | apply zS | apply zX | show VX _ _ _ _ _ _ _ | show vstep _ _ _ _ _ | show vskip _ _ _ | show withV _ _) | ((with_reducible show endA _ _ _ _ _ _ _); simp -implicitDefEqProofs only [endA]) | (with_reducible first | refine zB default (by first | omega | (simp only [LN]; omega)) (by first | omega | (simp only [LN]; omega)) ?_ | refine zC default (by first | omega | (simp only [LN]; omega)) ?_ | refine And.intro (by first | decide | omega | assumption | (simp only [LN]; omega)) ?_) | ((with_reducible show pickE _ _ _); first | refine zA _ ⟨by omega, by rfl⟩ ?_ | refine zA _ (by rfl) ?_) | fail); try simp -dsimp -implicitDefEqProofs (maxSteps := 1000000) (disch := first | omega | (simp only [LN]; omega)) only [go_sem])
     | fail)
    all_goals first | omega | ((refine zZ (i + 1) ?_ ?_ ?_; (omega); (show _ < _; omega); (simp -dsimp -implicitDefEqProofs (maxSteps := 1000000) (disch := first | omega | (simp only [LN, hs]; omega)) only [go_sem, hs]; try trivial)); simp [eNd])
  ·obtain rfl : i = A.n := by omega
   repeat' (first
    | (with_reducible first | apply zY | apply zT | apply zM | apply zN | apply zO | refine chk_ok (by kernel_rfl) ?_)
    | ((with_reducible first | apply zP | apply zQ | apply zR | apply zL) <;> intro h <;> try (exfalso; first | omega | exact h rfl | (revert h; decide) | (cases h; done)))
    | ((with_reducible show False); omega)
    | ((first | (with_reducible first | apply zW | apply zV | apply zU | apply zS | apply zX | show VX _ _ _ _ _ _ _ | show vstep _ _ _ _ _ | show vskip _ _ _ | show withV _ _) | ((with_reducible show endA _ _ _ _ _ _ _); simp -implicitDefEqProofs only [endA]) | (with_reducible first | refine zB default (by first | omega | (simp only [LN]; omega)) (by first | omega | (simp only [LN]; omega)) ?_ | refine zC default (by first | omega | (simp only [LN]; omega)) ?_ | refine And.intro (by first | decide | omega | assumption | (simp only [LN]; omega)) ?_) | ((with_reducible show pickE _ _ _); first | refine zA _ ⟨by omega, by rfl⟩ ?_ | refine zA _ (by rfl) ?_) | fail); try simp -dsimp -implicitDefEqProofs (maxSteps := 1000000) (disch := first | omega | (simp only [LN]; omega)) only [go_sem])
    | fail)
   all_goals first | omega | rfl
end Go.Proofs.YtegekpjkbedngaaGreat
namespace Go.Proofs.YtegekpjkbedngaaGreat
set_option maxHeartbeats 4000000
set_option maxRecDepth 100000
open Go Go.Ab
attribute [local irreducible] callK callF loopQ vstep vskip pickE hideP
attribute [local go_sem] eU eNd deO peO cuO liO thO hiO noO
def eC (b : UInt8) : PV := .v (.int .u8 b.toNat)
attribute [local go_sem] eC
theorem dClone (l : List Int) (h : 0 < l.length ∧ l.length ≤ 1000000) : ACalls Tryz.prog 50 [.sl 0 1 0 l.length] [.arr 1 (l.map eU)] (.sl 1 1 0 l.length) [.arr 1 (l.map eU), .arr 1 (l.map eU)] := by
 refine yA (E := E) (fn := Tryz.f50) 8 [.tmp 2] rfl rfl rfl rfl (by decide) rfl rfl ?_
 repeat' (first
  | (with_reducible first | apply zY | apply zT | apply zM | apply zN | apply zO | refine chk_ok (by kernel_rfl) ?_)
  | ((with_reducible first | apply zP | apply zQ | apply zR | apply zL) <;> intro h)
  | ((with_reducible show False); omega)
  | ((first | (with_reducible first | apply zW | apply zV | apply zU | apply zS | apply zX | show VX _ _ _ _ _ _ _ | show vstep _ _ _ _ _ | show vskip _ _ _ | show withV _ _) | ((with_reducible show endA _ _ _ _ _ _ _); simp -implicitDefEqProofs only [endA]) | (with_reducible first | refine zB default (by first | omega | (simp only [LN]; omega)) (by first | omega | (simp only [LN]; omega)) ?_ | refine zC default (by first | omega | (simp only [LN]; omega)) ?_ | refine And.intro (by first | decide | omega | assumption | (simp only [LN]; omega)) ?_) | ((with_reducible show pickE _ _ _); first | refine zA _ ⟨by omega, by rfl⟩ ?_ | refine zA _ (by rfl) ?_) | fail); try simp -dsimp -implicitDefEqProofs (maxSteps := 1000000) (disch := first | omega | (simp only [LN]; omega)) only [go_sem])
  | fail)
end Go.Proofs.YtegekpjkbedngaaGreat
namespace Go.Proofs.YtegekpjkbedngaaGreat
set_option maxHeartbeats 4000000
set_option maxRecDepth 100000
open Go Go.Ab
attribute [local irreducible] callK callF loopQ vstep vskip pickE hideP
attribute [local go_sem] eU deO peO cuO liO thO hiO noO
def Dv.fresh (n : Nat) (ws : List Int) : Dv := { n := n, per := ws, cur := ws, hist := fun _ => [], done := fun _ => 0, err := fun _ => 0, note := fun _ _ => none, off := false, armed := false, left := 0, ex := 0 }
def J0 : JT := fun _ => []
theorem jk_fresh (n : Nat) (ws : List Int) (r : Nat) : jk (Dv.fresh n ws) J0 r = [] := rfl
theorem WF.fresh (n : Nat) (ws : List Int) (h0 : 0 < n) (h6 : n ≤ 8) (hw : ws.length = 8 * n) : WF (Dv.fresh n ws) :=
 ⟨h0, h6, hw, hw, fun r _ x hx => by simp [Dv.fresh] at hx, fun _ _ _ => rfl, fun r _ => by simp [Dv.fresh], trivial⟩
theorem dOf6 (ws : List Int) (n : Nat) (hw : ws.length = 8 * n) (hn : 0 < n ∧ n ≤ 8) : ACalls Tryz.prog 21 [.sl 0 1 0 (8 * n)] [.arr 1 (ws.map eU)] (.loc 1 0) [peO (Dv.fresh n ws), deO (Dv.fresh n ws) 0 2 3 4, cuO (Dv.fresh n ws), liO (Dv.fresh n ws) J0 12, thO (Dv.fresh n ws) 0 1 20, thO (Dv.fresh n ws) 1 1 20, thO (Dv.fresh n ws) 2 1 20, thO (Dv.fresh n ws) 3 1 20, thO (Dv.fresh n ws) 4 1 20, thO (Dv.fresh n ws) 5 1 20, thO (Dv.fresh n ws) 6 1 20, thO (Dv.fresh n ws) 7 1 20, hiO (Dv.fresh n ws) J0 0, hiO (Dv.fresh n ws) J0 1, hiO (Dv.fresh n ws) J0 2, hiO (Dv.fresh n ws) J0 3, hiO (Dv.fresh n ws) J0 4, hiO (Dv.fresh n ws) J0 5, hiO (Dv.fresh n ws) J0 6, hiO (Dv.fresh n ws) J0 7, noO (Dv.fresh n ws) 0, noO (Dv.fresh n ws) 1, noO (Dv.fresh n ws) 2, noO (Dv.fresh n ws) 3, noO (Dv.fresh n ws) 4, noO (Dv.fresh n ws) 5, noO (Dv.fresh n ws) 6, noO (Dv.fresh n ws) 7] := by
 refine yA (E := E) (fn := Tryz.f21) 29 [.tmp 2] rfl rfl rfl rfl (by decide) rfl rfl ?_
 have k75 := dClone ws (by omega)
 rw [hw] at k75
 have hq : IntKind.i64.wrap (((8 * n : Nat) : Int).tdiv 8) = n := by
  rw [show (((8 * n : Nat) : Int).tdiv 8) = ((8 * n / 8 : Nat) : Int) from rfl, IntKind.wrap_i64]; omega
 repeat' ((fail_if_success (with_reducible show awp _ _ (Code.region 2 _ _) _ _)); first
  | (with_reducible first | apply zY | apply zT | apply zM | apply zN | apply zO | refine chk_ok (by kernel_rfl) ?_)
  | ((with_reducible first | apply zP | apply zQ | apply zR | apply zL) <;> intro h <;> try (exfalso; first | omega | exact h rfl | (revert h; decide) | (cases h; done)))
  | ((with_reducible show False); omega)
  | ((first | (with_reducible first | apply zW | apply zV | apply zU | apply zS | apply zX | show VX _ _ _ _ _ _ _ | show vstep _ _ _ _ _ | show vskip _ _ _ | show withV _ _) | ((with_reducible show endA _ _ _ _ _ _ _); simp -implicitDefEqProofs only [endA]) | (with_reducible first | refine zB default (by first | omega | (simp only [LN, hq]; omega)) (by first | omega | (simp only [LN, hq]; omega)) ?_ | refine zC default (by first | omega | (simp only [LN, hq]; omega)) ?_ | refine And.intro (by first | decide | omega | assumption | (simp only [LN, hq]; omega)) ?_) | (with_reducible first | apply zG | apply zH | apply zI | apply hidePI_own) | ((with_reducible apply zJ); (first | exact k75 | fail)) | ((with_reducible show pickE _ _ _); first | refine zA _ ⟨by omega, by rfl⟩ ?_ | refine zA _ (by rfl) ?_) | fail); try simp -dsimp -implicitDefEqProofs (maxSteps := 1000000) (disch := first | omega | (simp only [LN, hq]; omega)) only [go_sem, hq])
  | fail)
 all_goals try omega
 refine r_pvar 2 n 8 (.int .u64 0) (.slice none 0 0) (by rfl) hn.1 rfl rfl ?_
 simp -implicitDefEqProofs only [rowP]
 simp -dsimp -implicitDefEqProofs (maxSteps := 1000000) (disch := first | omega | (simp only [LN]; omega)) only [go_sem]
 repeat' (first
  | (with_reducible first | apply zY | apply zT | apply zM | apply zN | apply zO | refine chk_ok (by kernel_rfl) ?_)
  | ((with_reducible first | apply zP | apply zQ | apply zR | apply zL) <;> intro h <;> try (exfalso; first | omega | exact h rfl | (revert h; decide) | (cases h; done)))
  | ((with_reducible show False); omega)
  | ((first | (with_reducible first | apply zW | apply zV | apply zU | apply zS | apply zX | show VX _ _ _ _ _ _ _ | show vstep _ _ _ _ _ | show vskip _ _ _ | show withV _ _) | ((with_reducible show endA _ _ _ _ _ _ _); simp -implicitDefEqProofs only [endA]) | (with_reducible first | refine zB default (by first | omega | (simp only [LN, hq]; omega)) (by first | omega | (simp only [LN, hq]; omega)) ?_ | refine zC default (by first | omega | (simp only [LN, hq]; omega)) ?_ | refine And.intro (by first | decide | omega | assumption | (simp only [LN, hq]; omega)) ?_) | ((with_reducible show pickE _ _ _); first | refine zA _ ⟨by omega, by rfl⟩ ?_ | refine zA _ (by rfl) ?_) | fail); try simp -dsimp -implicitDefEqProofs (maxSteps := 1000000) (disch := first | omega | (simp only [LN, hq]; omega)) only [go_sem, hq])
  | fail)
 refine r_rounds 9 ?_
 iterate 9
  refine yF ?_
  repeat' (first
   | (with_reducible first | apply zY | apply zT | apply zM | apply zN | apply zO | refine chk_ok (by kernel_rfl) ?_)
   | ((with_reducible first | apply zP | apply zQ | apply zR | apply zL) <;> intro h <;> try (exfalso; first | omega | exact h rfl | (revert h; decide) | (cases h; done)))
   | ((with_reducible show False); omega)
   | ((first | (with_reducible first | apply zW | apply zV | apply zU | apply zS | apply zX | show VX _ _ _ _ _ _ _ | show vstep _ _ _ _ _ | show vskip _ _ _ | show withV _ _) | ((with_reducible show endA _ _ _ _ _ _ _); simp -implicitDefEqProofs only [endA]) | (with_reducible first | refine zB default (by first | omega | (simp only [LN]; omega)) (by first | omega | (simp only [LN]; omega)) ?_ | refine zC default (by first | omega | (simp only [LN]; omega)) ?_ | refine And.intro (by first | decide | omega | assumption | (simp only [LN]; omega)) ?_) | ((with_reducible show pickE _ _ _); first | refine zA _ ⟨by omega, by rfl⟩ ?_ | refine zA _ (by rfl) ?_) | fail); try simp -dsimp -implicitDefEqProofs (maxSteps := 1000000) (disch := first | omega | (simp only [LN]; omega)) only [go_sem])
   | fail)
 all_goals simp [Dv.fresh, jk]
end Go.Proofs.YtegekpjkbedngaaGreat
namespace Go.Proofs.YtegekpjkbedngaaGreat
open Go Go.Ab
attribute [local irreducible] callK callF loopQ vstep vskip pickE hideP
set_option maxRecDepth 100000
structure Inv (A : Dv) (J : JT) (N : Nat) : Prop where
 wf : WF A
 no : ∀ k, k < 8 → NoteOk A k
 jo : JOk A J
 bd : ∀ r, r < 8 → A.done r + (A.hist r).length ≤ N
theorem Inv.jl {A : Dv} {J : JT} {N : Nat} (h : Inv A J N) (hN : N ≤ 1000000000) (r : Nat) (hr : r < 8) : (jk A J r).length ≤ 1000000000 := by
 have h1 := h.jo r hr
 have h2 := h.bd r hr
 omega
theorem Inv.fresh (n : Nat) (ws : List Int) (h0 : 0 < n) (h6 : n ≤ 8) (hw : ws.length = 8 * n) : Inv (Dv.fresh n ws) J0 0 :=
 ⟨WF.fresh n ws h0 h6 hw, fun k _ x v hx => by simp [Dv.fresh] at hx, fun r _ => by rw [jk_fresh]; simp [Dv.fresh], fun r _ => by simp [Dv.fresh]⟩
theorem Inv.cnt {A : Dv} {J : JT} {N : Nat} (h : Inv A J N) (k : Nat) (v : Bool) : Inv (A.cnt k v) J N := by
 obtain ⟨e1, e2, e3, e4, e5, e6⟩ := cnt_p A k v
 refine ⟨h.wf.cnt k v, fun q hq => (h.no q hq).cnt k v, fun r hr => ?_, fun r hr => ?_⟩
 ·rw [jk_cnt, e5]; exact h.jo r hr
 ·rw [e4, e5]; exact h.bd r hr
theorem Inv.put {A : Dv} {J : JT} {N : Nat} (h : Inv A J N) (hN : N < 1000000000) {r : Nat} (hr : r < A.n) {o v : Int} (ho : o / 64 = r ∧ o % 8 = 0 ∧ 0 ≤ o) (hv : 0 ≤ v ∧ v ≤ 18446744073709551615) (g : Bool) : Inv (A.put r o v) (jput A J r g) (N + 1) := by
 have hw := h.wf
 have h6 := hw.n6
 have hb : ∀ i, i < 8 → A.done i + ((A.put r o v).hist i).length ≤ (N : Int) + 1 := by
  intro i hi
  have := h.bd i hi
  rw [put_hist]
  split
  ·rename_i e; rw [e] at this ⊢; rw [List.length_append]; simp only [List.length_cons, List.length_nil]; omega
  ·omega
 refine ⟨⟨hw.n0, hw.n6, hw.per, ?_, ?_, ?_, ?_, trivial⟩, ?_, ?_, ?_⟩
 ·show (A.cur.set (o / 8).toNat v).length = 8 * A.n; rw [List.length_set]; exact hw.cur
 ·intro i hi x hx
  rw [put_hist] at hx
  split at hx
  ·rename_i e
   rcases List.mem_append.1 hx with h1 | h1
   ·have := hw.hist r (by omega) x h1; rw [e]; exact this
   ·simp only [List.mem_singleton] at h1
    subst h1
    exact ⟨⟨by simp only; omega, ho.2.1, ho.2.2⟩, hv⟩
  ·exact hw.hist i hi x hx
 ·intro i h1 h2
  rw [put_hist, if_neg (by have : A.n ≤ i := h1; omega)]
  exact hw.top i h1 h2
 ·intro i hi
  have h1 := hb i hi
  have h2 := (hw.len i hi).1
  exact ⟨h2, by show A.done i + _ ≤ _; omega⟩
 ·intro k hk x w hx
  obtain ⟨i, h1, h2, h3, h4⟩ := h.no k hk x w hx
  refine ⟨i, h1, h2, h3, Int.le_trans h4 ?_⟩
  show A.done i + ((A.hist i).length : Int) ≤ A.done i + (((A.put r o v).hist i).length : Int)
  rw [put_hist]
  split
  ·rename_i e; rw [e, List.length_append]; simp only [List.length_cons, List.length_nil]; omega
  ·exact Int.le_refl _
 ·intro i hi
  rw [jk_put]
  have h1 := h.jo i hi
  have h2 := (hw.len i hi).1
  show _ ≤ A.done i
  split
  ·rename_i e; rw [e] at h1 h2 ⊢
   cases g
   ·simpa using h2
   ·exact h1
  ·exact h1
 ·intro i hi
  have := hb i hi
  show A.done i + _ ≤ _
  push_cast; exact this
theorem Inv.le {A : Dv} {J : JT} {N M : Nat} (h : Inv A J N) (hl : N ≤ M) : Inv A J M := ⟨h.wf, h.no, h.jo, fun r hr => by have := h.bd r hr; omega⟩
theorem Inv.store {A : Dv} {J : JT} {N : Nat} (h : Inv A J N) (hN : N < 1000000000) (k : Nat) {o v : Int} (ho : 0 ≤ o) (hv : 0 ≤ v ∧ v ≤ 18446744073709551615) (g : Bool) : Inv (A.store k o v) (jsto A J k o g) (N + 1) := by
 unfold Dv.store jsto
 split
 ·rename_i hc
  obtain ⟨h1, h2, h3⟩ := isW_of (cntB_of hc) ho
  exact (h.cnt k _).put hN (by rw [(cnt_p A k _).1]; exact h1) ⟨h2, h3, ho⟩ hv g
 ·exact (h.cnt k _).le (by omega)
theorem Inv.noted {A : Dv} {J : JT} {N : Nat} (h : Inv A J N) (k : Nat) {r : Nat} (hr : r < A.n) : Inv (A.noted k r) J N := by
 have hw := h.wf
 refine ⟨⟨hw.n0, hw.n6, hw.per, hw.cur, hw.hist, hw.top, hw.len, trivial⟩, ?_, h.jo, h.bd⟩
 intro q hq x v hx
 have hx : upd A.note k (updF (A.note k) (.int .i64 r) (some (A.done r + (A.hist r).length))) q x = some v := hx
 unfold upd at hx
 split at hx
 ·rename_i e
  unfold updF at hx
  split at hx
  ·rename_i e2
   simp only [Option.some.injEq] at hx
   subst hx
   have := (hw.len r (by have := hw.n6; omega)).1
   exact ⟨r, hr, e2, by omega, Int.le_refl _⟩
  ·rw [← e] at hx
   exact h.no q hq x v hx
 ·exact h.no q hq x v hx
theorem Inv.flush {A : Dv} {J : JT} {N : Nat} (h : Inv A J N) (k : Nat) {o : Int} (ho : 0 ≤ o) : Inv (A.flush k o) J N := by
 unfold Dv.flush
 split
 ·rename_i hc
  have hb := cntB_of hc
  simp [Dv.isB] at hb
  refine (h.cnt k _).noted k ?_
  rw [(cnt_p A k _).1]; omega
 ·exact h.cnt k _
open Classical in
theorem fencS_hd (B : Dv) (k : Nat) (S : Nat → Prop) (r : Nat) : (fencS B k S).hist r = (if S r then (B.hist r).drop (kF B k r) else B.hist r) ∧ (fencS B k S).done r = if S r then B.done r + kF B k r else B.done r := ⟨rfl, rfl⟩
theorem Inv.fence {A : Dv} {J J2 : JT} {N : Nat} (h : Inv A J N) (k : Nat) (hk : k < 8) (hj : JOk (A.fence k) J2) : Inv (A.fence k) J2 N := by
 unfold Dv.fence at hj ⊢
 split at hj
 ·rename_i hc
  rw [if_pos hc]
  have hB := h.cnt k true
  generalize A.cnt k true = B at *
  have hn := hB.no k hk
  have hw := wf_fencS hB.wf hn (fun _ => True)
  have hsum : ∀ r, r < 8 → (fencS B k fun _ => True).done r + ((fencS B k fun _ => True).hist r).length = B.done r + (B.hist r).length := by
   intro r hr
   have h1 := kF_le (r := r) hn (hB.wf.len r hr).1
   rw [(fencS_hd _ _ _ _).1, (fencS_hd _ _ _ _).2, if_pos trivial, if_pos trivial, List.length_drop]; omega
  refine ⟨⟨hw.n0, hw.n6, hw.per, hw.cur, hw.hist, hw.top, hw.len, trivial⟩, ?_, hj, fun r hr => ?_⟩
  ·intro q hq x v hx
   have hx : upd B.note k (fun _ => none) q x = some v := hx
   unfold upd at hx
   split at hx
   ·cases hx
   ·obtain ⟨i, h1, h2, h3, h4⟩ := hB.no q hq x v hx
    refine ⟨i, h1, h2, h3, Int.le_trans h4 ?_⟩
    exact Int.le_of_eq (hsum i (by have := hB.wf.n6; omega)).symm
  ·exact Int.le_trans (Int.le_of_eq (hsum r hr)) (hB.bd r hr)
 ·rename_i hc
  rw [if_neg hc]
  have hB := h.cnt k true
  exact ⟨hB.wf, hB.no, hj, hB.bd⟩
end Go.Proofs.YtegekpjkbedngaaGreat
