/- Contracts of functions of this program, and the plain facts that they rest on. No conditions. -/
import Derived.Test.YtpcjeaaplidmaaaDoorLinCQ
import Derived.Test.YtpcjeaaplidmaaaDoorSpCQ
set_option linter.unusedSimpArgs false
set_option linter.unusedVariables false
namespace Go.Proofs.YtpcjeaaplidmaaaDoor
open Go Go.Ab
attribute [local irreducible] callK callF loopQ vstep vskip pickE hideP
open Go.RowKit
set_option maxRecDepth 100000
structure OkS (s : Sp.S) (b : Nat) : Prop where
 inv : Sp.Inv s b
 neat : Sp.Neat s
 n : U64 s.n
 ps : ∀ p, p ∈ s.ps → U64 p.1 ∧ U64 p.2
 vs : ∀ v, v ∈ s.vs → U64 v
def RngO (o : Sp.O) : Prop := U64 o.key ∧ U64 o.val ∧ U64 o.old
theorem ins_mem : ∀ (l : Sp.Pl.LP) (k v : Int) q, q ∈ Sp.Pl.ins l k v → q ∈ l ∨ q = (k, v)
 | [], k, v, q, h => .inr (by simpa [Sp.Pl.ins] using h)
 | p :: t, k, v, q, h => by
  simp only [Sp.Pl.ins] at h
  split at h
  ·rcases List.mem_cons.1 h with rfl | h
   ·exact .inl List.mem_cons_self
   ·rcases ins_mem t k v q h with h | h
    ·exact .inl (List.mem_cons_of_mem _ h)
    ·exact .inr h
  ·split at h
   ·rcases List.mem_cons.1 h with rfl | h
    ·exact .inr rfl
    ·exact .inl (List.mem_cons_of_mem _ h)
   ·rcases List.mem_cons.1 h with rfl | h
    ·exact .inr rfl
    ·exact .inl h
theorem del_mem : ∀ (l : Sp.Pl.LP) (k : Int) q, q ∈ Sp.Pl.del l k → q ∈ l
 | [], k, q, h => h
 | p :: t, k, q, h => by
  simp only [Sp.Pl.del] at h
  split at h
  ·rcases List.mem_cons.1 h with rfl | h
   ·exact List.mem_cons_self
   ·exact List.mem_cons_of_mem _ (del_mem t k q h)
  ·split at h
   ·exact List.mem_cons_of_mem _ h
   ·exact h
theorem wrap_U (x : Int) : U64 (IntKind.u64.wrap x) := by unfold U64; rw [IntKind.wrap_u64]; omega
theorem ok_apply {s : Sp.S} {b : Nat} (h : OkS s b) {o : Sp.O} (ho : RngO o) : OkS (Sp.applyM s o).1 (b + 1) := by
 refine ⟨Sp.inv_apply h.inv o, Sp.neat_apply h.neat o, ?_, ?_, ?_⟩
 ·unfold Sp.applyM Sp.regM Sp.queM
  rw [Sp.map_pl]
  unfold Sp.mapP'
  repeat' split
  all_goals first | exact h.n | exact ho.2.1 | exact wrap_U _
 ·have h1 : ∀ p, p ∈ Sp.Pl.ins s.ps o.key o.val → U64 p.1 ∧ U64 p.2 := fun p hp => by
   rcases ins_mem _ _ _ _ hp with hp | rfl
   ·exact h.ps p hp
   ·exact ⟨ho.1, ho.2.1⟩
  have h2 : ∀ p, p ∈ Sp.Pl.del s.ps o.key → U64 p.1 ∧ U64 p.2 := fun p hp => h.ps p (del_mem _ _ _ hp)
  unfold Sp.applyM Sp.regM Sp.queM
  rw [Sp.map_pl]
  unfold Sp.mapP'
  repeat' split
  all_goals first | exact h.ps | exact h1 | exact h2
 ·have h1 : ∀ v, v ∈ s.vs ++ [o.val] → U64 v := fun v hv => by
   rcases List.mem_append.1 hv with hv | hv
   ·exact h.vs v hv
   ·rw [List.mem_singleton.1 hv]; exact ho.2.1
  have h2 : ∀ v, v ∈ s.vs.drop 1 → U64 v := fun v hv => h.vs v (List.mem_of_mem_drop hv)
  unfold Sp.applyM Sp.regM Sp.queM
  rw [Sp.map_pl]
  unfold Sp.mapP'
  repeat' split
  all_goals first | exact h.vs | exact h1 | exact h2
theorem enum_mem : ∀ (l : List Int) (i : Nat) (p : Int × Int), p ∈ Sp.enumI i l → (∃ j : Nat, p.1 = (j : Int) ∧ j < i + l.length) ∧ p.2 ∈ l
 | [], i, p, h => by simp [Sp.enumI] at h
 | v :: t, i, p, h => by
  simp only [Sp.enumI] at h
  rcases List.mem_cons.1 h with rfl | h
  ·exact ⟨⟨i, rfl, by simp only [List.length_cons]; omega⟩, List.mem_cons_self⟩
  ·obtain ⟨⟨j, h1, h2⟩, h3⟩ := enum_mem t (i + 1) p h
   exact ⟨⟨j, h1, by simp only [List.length_cons]; omega⟩, List.mem_cons_of_mem _ h3⟩
theorem cont_rng {s : Sp.S} {b : Nat} (h : OkS s b) (hb : b ≤ 10000) : RngP (Sp.contM s) := by
 have key : ∀ p, p ∈ Sp.contM s → U64 p.1 ∧ U64 p.2 := fun p hp => by
  unfold Sp.contM at hp
  split at hp
  ·rw [List.mem_singleton.1 hp]; exact ⟨⟨Int.le_refl _, (by decide : (0 : Int) ≤ 18446744073709551615)⟩, h.n⟩
  ·split at hp
   ·exact h.ps p hp
   ·obtain ⟨⟨j, h1, h2⟩, h3⟩ := enum_mem _ _ _ hp
    have := h.inv.vs
    exact ⟨by unfold U64; omega, h.vs _ h3⟩
 intro i hi
 rw [Hi.getD_get _ _ _ hi]
 exact key _ (List.getElem_mem hi)
theorem ok_ini (k : Int) (hk : Sp.newK k = k) : OkS (ini k) 0 := by
 have h2 : 0 ≤ Sp.newK k ∧ Sp.newK k ≤ 4 := by unfold Sp.newK; split <;> omega
 exact ⟨⟨trivial, Nat.le_refl _, Nat.le_refl _, h2⟩, Sp.neat_new _, ⟨Int.le_refl _, (by decide : (0 : Int) ≤ 18446744073709551615)⟩, fun p hp => by simp [ini] at hp, fun v hv => by simp [ini] at hv⟩
theorem OkS.mono {s : Sp.S} {a b : Nat} (h : OkS s a) (hab : a ≤ b) : OkS s b := ⟨h.inv.mono hab, h.neat, h.n, h.ps, h.vs⟩
structure G where
 seen : List (List UInt8)
 es : List Nat
 n : Nat
 acc : List LP
def keyM (s : Sp.S) (used : Nat) : List UInt8 := numL (used : Int) ++ (58 :: textP (Sp.contM s))
def skipB (cl : List Hi.C) (used i : Nat) : Bool := used.testBit i || decide (maskN (befP cl i) cl.length &&& used ≠ 0)
def eqR (a b : Sp.R) : Prop := a.v = b.v ∧ a.b = b.b ∧ a.e = b.e
instance (a b : Sp.R) : Decidable (eqR a b) := by unfold eqR; exact inferInstance
def stepB (cl : List Hi.C) (s : Sp.S) (i : Nat) : Bool := decide (0 ≤ (cl.getD i default).en → eqR (Sp.applyM s (opC (cl.getD i default))).2 (resC (cl.getD i default)))
def goM (cl : List Hi.C) (rec : Sp.S → Nat → G → Bool × G) (s : Sp.S) (used : Nat) : Nat → Nat → G → Bool × G
 | 0, _, g => (false, g)
 | m + 1, i, g => if skipB cl used i = true then goM cl rec s used m (i + 1) g else if stepB cl s i = false then goM cl rec s used m (i + 1) g else
  if (rec (Sp.applyM s (opC (cl.getD i default))).1 (used ||| 2 ^ i) ⟨g.seen, g.es.take g.n ++ [i], g.n + 1, g.acc⟩).1 = true then (true, (rec (Sp.applyM s (opC (cl.getD i default))).1 (used ||| 2 ^ i) ⟨g.seen, g.es.take g.n ++ [i], g.n + 1, g.acc⟩).2)
  else goM cl rec s used m (i + 1) ⟨(rec (Sp.applyM s (opC (cl.getD i default))).1 (used ||| 2 ^ i) ⟨g.seen, g.es.take g.n ++ [i], g.n + 1, g.acc⟩).2.seen, (rec (Sp.applyM s (opC (cl.getD i default))).1 (used ||| 2 ^ i) ⟨g.seen, g.es.take g.n ++ [i], g.n + 1, g.acc⟩).2.es, (rec (Sp.applyM s (opC (cl.getD i default))).1 (used ||| 2 ^ i) ⟨g.seen, g.es.take g.n ++ [i], g.n + 1, g.acc⟩).2.n - 1, (rec (Sp.applyM s (opC (cl.getD i default))).1 (used ||| 2 ^ i) ⟨g.seen, g.es.take g.n ++ [i], g.n + 1, g.acc⟩).2.acc⟩
def runM (cl : List Hi.C) (fnd : Sp.S → List LP → Bool × List LP) : Nat → Sp.S → Nat → G → Bool × G
 | 0, _, _, g => (false, g)
 | f + 1, s, used, g => if keyM s used ∈ g.seen then (false, g) else
  if endN cl &&& used = endN cl then
   if (fnd s g.acc).1 = true then (true, ⟨keyM s used :: g.seen, g.es, g.n, (fnd s g.acc).2⟩)
   else goM cl (runM cl fnd f) s used cl.length 0 ⟨keyM s used :: g.seen, g.es, g.n, (fnd s g.acc).2⟩
  else goM cl (runM cl fnd f) s used cl.length 0 ⟨keyM s used :: g.seen, g.es, g.n, g.acc⟩
def freeN (u : Nat) : Nat → Nat
 | 0 => 0
 | k + 1 => freeN u k + (if u.testBit k = true then 0 else 1)
theorem free_le (u : Nat) : ∀ N, freeN u N ≤ N
 | 0 => Nat.le_refl _
 | k + 1 => by have := free_le u k; rw [freeN]; split <;> omega
theorem free_same (u i : Nat) : ∀ N, N ≤ i → freeN (u ||| 2 ^ i) N = freeN u N
 | 0, _ => rfl
 | k + 1, h => by
  rw [freeN, freeN, free_same u i k (by omega), Nat.testBit_or, Nat.testBit_two_pow, decide_eq_false (by omega), Bool.or_false]
theorem free_or (u i : Nat) (hu : u.testBit i = false) : ∀ N, i < N → freeN (u ||| 2 ^ i) N + 1 = freeN u N
 | k + 1, h => by
  rw [freeN, freeN, Nat.testBit_or, Nat.testBit_two_pow]
  by_cases e : i = k
  ·subst e
   rw [free_same u i i (Nat.le_refl _), hu, decide_eq_true rfl, if_pos (by rfl), if_neg (by decide)]
  ·rw [decide_eq_false e, Bool.or_false]
   have := free_or u i hu k (by omega)
   omega
def OkN (g : G) (r : Bool × G) : Prop := r.2.n ≤ r.2.es.length ∧ g.n ≤ r.2.n ∧ r.2.es.take g.n = g.es.take g.n ∧ (r.1 = false → r.2.n = g.n)
theorem go_n (cl : List Hi.C) (rec : Sp.S → Nat → G → Bool × G) (hrec : ∀ s used g, g.n ≤ g.es.length → OkN g (rec s used g)) (s : Sp.S) (used : Nat) : ∀ m i g, g.n ≤ g.es.length → OkN g (goM cl rec s used m i g)
 | 0, _, g, h => ⟨h, Nat.le_refl _, rfl, fun _ => rfl⟩
 | m + 1, i, g, h => by
  rw [goM]
  split
  ·exact go_n cl rec hrec s used m (i + 1) g h
  ·split
   ·exact go_n cl rec hrec s used m (i + 1) g h
   ·have hlen : (g.es.take g.n ++ [i]).length = g.n + 1 := by rw [List.length_append, List.length_take]; simp; omega
    have h1 := hrec (Sp.applyM s (opC (cl.getD i default))).1 (used ||| 2 ^ i) ⟨g.seen, g.es.take g.n ++ [i], g.n + 1, g.acc⟩ (by dsimp only; omega)
    generalize rec (Sp.applyM s (opC (cl.getD i default))).1 (used ||| 2 ^ i) ⟨g.seen, g.es.take g.n ++ [i], g.n + 1, g.acc⟩ = r at h1 ⊢
    obtain ⟨a1, a2, a3, a4⟩ := h1
    dsimp only at a2 a3 a4
    have a5 : r.2.es.take g.n = g.es.take g.n := by
     have := congrArg (List.take g.n) a3
     rw [List.take_take, Nat.min_eq_left (by omega), List.take_take, Nat.min_eq_left (by omega), List.take_append_of_le_length (by rw [List.length_take]; omega), List.take_take, Nat.min_self] at this
     exact this
    split
    ·rename_i hr
     exact ⟨a1, by dsimp only; omega, a5, fun hh => by cases hh⟩
    ·rename_i hr
     have hr2 := a4 (by simpa using hr)
     obtain ⟨b1, b2, b3, b4⟩ := go_n cl rec hrec s used m (i + 1) ⟨r.2.seen, r.2.es, r.2.n - 1, r.2.acc⟩ (by dsimp only; omega)
     dsimp only at b2 b3 b4
     have e : r.2.n - 1 = g.n := by omega
     rw [e] at b1 b2 b3 b4 ⊢
     exact ⟨b1, b2, by rw [b3, a5], b4⟩
theorem run_n (cl : List Hi.C) (fnd : Sp.S → List LP → Bool × List LP) : ∀ f s used g, g.n ≤ g.es.length → OkN g (runM cl fnd f s used g)
 | 0, _, _, g, h => ⟨h, Nat.le_refl _, rfl, fun _ => rfl⟩
 | f + 1, s, used, g, h => by
  rw [runM]
  have ih := run_n cl fnd f
  split
  ·exact ⟨h, Nat.le_refl _, rfl, fun _ => rfl⟩
  ·split
   ·split
    ·exact ⟨h, Nat.le_refl _, rfl, fun hh => by cases hh⟩
    ·exact go_n cl _ ih s used _ _ ⟨_, g.es, g.n, _⟩ h
   ·exact go_n cl _ ih s used _ _ ⟨_, g.es, g.n, _⟩ h
end Go.Proofs.YtpcjeaaplidmaaaDoor