/- Contracts of functions of this program, and the plain facts that they rest on. No conditions. -/
import Derived.Test.YtpcjeaaplidmaaaGreatDoorLinSQ
set_option linter.unusedSimpArgs false
set_option linter.unusedVariables false
namespace Go.Proofs.YtpcjeaaplidmaaaGreatDoor
open Go Go.Ab
attribute [local irreducible] callK callF loopQ vstep vskip pickE hideP
open Go.RowKit
set_option maxRecDepth 100000
def toI (o : List Nat) : List Int := o.map fun (n : Nat) => (n : Int)
def allU (cl : List Hi.C) (u : List Bool) : Prop := ∀ i, i < cl.length → u.getD i false = true ∨ (cl.getD i default).en < 0
def lateU (cl : List Hi.C) (u : List Bool) (i : Nat) : Prop := ∃ k, k < cl.length ∧ u.getD k false = true ∧ Hi.befM cl (i : Int) (k : Int)
def mayU (cl : List Hi.C) (u : List Bool) (i : Nat) : Prop := u.getD i false = false ∧ ∀ k, k < cl.length → u.getD k false = false → 0 ≤ (cl.getD k default).en → k ≠ i → ¬ Hi.befM cl (k : Int) (i : Int)
def resU (k : Int) (cl : List Hi.C) (s : LP) (i : Nat) : Prop := 0 ≤ (cl.getD i default).en → eqR (rapp k s (opC (cl.getD i default))).2 (resC (cl.getD i default))
def canU (k : Int) (cl : List Hi.C) (s : LP) (u : List Bool) (i : Nat) : Prop := ¬ lateU cl u i ∧ mayU cl u i ∧ resU k cl s i
open Classical in
noncomputable def addF (cl : List Hi.C) (s : LP) (u : List Bool) (out : List LP) : List LP := if allU cl u ∧ s ∉ out then out ++ [s] else out
open Classical in
noncomputable def finGo (k : Int) (cl : List Hi.C) (rec : LP → List Bool → List LP → List LP) (s : LP) (u : List Bool) : Nat → Nat → List LP → List LP
 | 0, _, out => out
 | m + 1, i, out => if canU k cl s u i then finGo k cl rec s u m (i + 1) (rec (rapp k s (opC (cl.getD i default))).1 (u.set i true) out) else finGo k cl rec s u m (i + 1) out
noncomputable def finM (k : Int) (cl : List Hi.C) : Nat → LP → List Bool → List LP → List LP
 | 0, _, _, out => out
 | f + 1, s, u, out => finGo k cl (finM k cl f) s u cl.length 0 (addF cl s u out)
def rpath (k : Int) (cl : List Hi.C) : LP → List Bool → List Nat → Prop
 | _, _, [] => True
 | s, u, i :: o => (i < cl.length ∧ canU k cl s u i) ∧ rpath k cl (rapp k s (opC (cl.getD i default))).1 (u.set i true) o
def rend (k : Int) (cl : List Hi.C) : LP → List Nat → LP
 | s, [] => s
 | s, i :: o => rend k cl (rapp k s (opC (cl.getD i default))).1 o
def ruse : List Bool → List Nat → List Bool
 | u, [] => u
 | u, i :: o => ruse (u.set i true) o
def rgood (k : Int) (cl : List Hi.C) (x : LP) (s : LP) (u : List Bool) (o : List Nat) : Prop := rpath k cl s u o ∧ allU cl (ruse u o) ∧ rend k cl s o = x
theorem addF_mem {cl : List Hi.C} {s : LP} {u : List Bool} {out : List LP} {x : LP} : x ∈ addF cl s u out ↔ x ∈ out ∨ (allU cl u ∧ s = x) := by
 unfold addF
 by_cases h : allU cl u ∧ s ∉ out
 ·rw [if_pos h, List.mem_append, List.mem_singleton]
  exact ⟨fun g => g.imp id fun e => ⟨h.1, e.symm⟩, fun g => g.imp id fun e => e.2.symm⟩
 ·rw [if_neg h]
  refine ⟨.inl, fun g => g.elim id fun ⟨g1, g2⟩ => ?_⟩
  subst g2
  exact Classical.byContradiction fun hn => h ⟨g1, hn⟩
theorem finGo_mem {k : Int} {cl : List Hi.C} {rec : LP → List Bool → List LP → List LP} {s : LP} {u : List Bool} {x : LP} {R : LP → List Bool → Prop} (hr : ∀ s u out, x ∈ rec s u out ↔ x ∈ out ∨ R s u) : ∀ m i out, i + m = cl.length → (x ∈ finGo k cl rec s u m i out ↔ x ∈ out ∨ ∃ j, i ≤ j ∧ j < cl.length ∧ canU k cl s u j ∧ R (rapp k s (opC (cl.getD j default))).1 (u.set j true))
 | 0, i, out, h => ⟨.inl, fun g => g.elim id fun ⟨j, h1, h2, _⟩ => absurd h1 (by omega)⟩
 | m + 1, i, out, h => by
  rw [finGo]
  by_cases hc : canU k cl s u i
  ·rw [if_pos hc, finGo_mem hr m (i + 1) _ (by omega), hr]
   constructor
   ·rintro ((g | g) | ⟨j, h1, h2⟩)
    ·exact .inl g
    ·exact .inr ⟨i, Nat.le_refl _, by omega, hc, g⟩
    ·exact .inr ⟨j, by omega, h2⟩
   ·rintro (g | ⟨j, h1, h2, h3, h4⟩)
    ·exact .inl (.inl g)
    ·rcases Nat.eq_or_lt_of_le h1 with e | e
     ·subst e; exact .inl (.inr h4)
     ·exact .inr ⟨j, e, h2, h3, h4⟩
  ·rw [if_neg hc, finGo_mem hr m (i + 1) _ (by omega)]
   constructor
   ·rintro (g | ⟨j, h1, h2⟩)
    ·exact .inl g
    ·exact .inr ⟨j, by omega, h2⟩
   ·rintro (g | ⟨j, h1, h2, h3, h4⟩)
    ·exact .inl g
    ·rcases Nat.eq_or_lt_of_le h1 with e | e
     ·subst e; exact absurd h3 hc
     ·exact .inr ⟨j, e, h2, h3, h4⟩
theorem finM_mem {k : Int} {cl : List Hi.C} {x : LP} : ∀ f s u out, x ∈ finM k cl f s u out ↔ x ∈ out ∨ ∃ o, o.length < f ∧ rgood k cl x s u o
 | 0, s, u, out => ⟨.inl, fun g => g.elim id fun ⟨o, h, _⟩ => absurd h (Nat.not_lt_zero _)⟩
 | f + 1, s, u, out => by
  rw [finM, finGo_mem (R := fun s u => ∃ o, o.length < f ∧ rgood k cl x s u o) (finM_mem f) _ _ _ (by omega), addF_mem]
  constructor
  ·rintro ((g | ⟨g1, g2⟩) | ⟨j, h1, h2, h3, o, h4, h5, h6, h7⟩)
   ·exact .inl g
   ·exact .inr ⟨[], by simp, trivial, g1, g2⟩
   ·exact .inr ⟨j :: o, by simp; omega, ⟨⟨h2, h3⟩, h5⟩, h6, h7⟩
  ·rintro (g | ⟨o, h1, h2, h3, h4⟩)
   ·exact .inl (.inl g)
   ·cases o with
    | nil => exact .inl (.inr ⟨h3, h4⟩)
    | cons j o => exact .inr ⟨j, Nat.zero_le _, h2.1.1, h2.1.2, o, by simpa using h1, h2.2, h3, h4⟩
def sameU (cl : List Hi.C) (m : Nat) (u : List Bool) : Prop := u.length = cl.length ∧ ∀ i, i < cl.length → m.testBit i = u.getD i false
theorem sameU_set {cl : List Hi.C} {m : Nat} {u : List Bool} (h : sameU cl m u) {i : Nat} (hi : i < cl.length) : sameU cl (m ||| 2 ^ i) (u.set i true) := by
 refine ⟨by rw [List.length_set, h.1], fun j hj => ?_⟩
 rw [Nat.testBit_or, Nat.testBit_two_pow, h.2 j hj]
 by_cases e : i = j
 ·subst e
  rw [Hi.getD_set_self _ _ _ _ (by rw [h.1]; exact hi)]; simp
 ·rw [Hi.gS_ne _ _ _ _ _ (Ne.symm e), decide_eq_false e, Bool.or_false]
theorem rgood_good {k : Int} {cl : List Hi.C} {x : LP} (hk : Sp.newK k = k) (ho : OpsOk k cl) : ∀ (o : List Nat) (s : Sp.S) (m : Nat) (u : List Bool) (b : Nat), OkS s b → s.k = k → sameU cl m u → rgood k cl x (Sp.contM s) u o → good cl (fun s => decide (Sp.contM s = x)) s m o
 | [], s, m, u, b, hs, hsk, hu, h => by
  refine ⟨trivial, end_sub.2 fun a ha hae => ?_, decide_eq_true h.2.2⟩
  rcases h.2.1 a ha with g | g
  ·rw [endU, hu.2 a ha]; exact g
  ·omega
 | i :: o, s, m, u, b, hs, hsk, hu, h => by
  obtain ⟨⟨⟨h1, h2, h3, h4⟩, h5⟩, h6, h7⟩ := h
  have hra := rapp_ok (o := opC (cl.getD i default)) hs (by rw [hsk]; exact (ho i h1).1)
  rw [hsk] at hra
  refine good_cons ⟨h1, skip_false.2 ⟨by rw [hu.2 i h1]; exact h3.1, fun a ha hua hb => h2 ⟨a, ha, by rw [← hu.2 a ha]; exact hua, hb⟩⟩, ?_⟩ ?_
  ·unfold stepB
   refine decide_eq_true fun hen => ?_
   have := h4 hen
   rw [hra] at this; exact this
  ·refine rgood_good hk ho o (nxt cl s i) _ (u.set i true) (b + 1) (ok_apply hs (ho i h1).2) (by unfold nxt; rw [apply_k, hsk]) (sameU_set hu h1) ⟨?_, h6, ?_⟩
   ·rw [hra] at h5; exact h5
   ·rw [rend, hra] at h7; exact h7
theorem path_not {cl : List Hi.C} {j : Nat} : ∀ (o : List Nat) (s : Sp.S) (m : Nat), pathOk cl s m o → j ∈ o → ∀ a, a < cl.length → m.testBit a = true → ¬ Hi.befM cl (j : Int) (a : Int)
 | i :: o, s, m, h, hj, a, ha, hm => by
  rcases List.mem_cons.1 hj with e | e
  ·subst e; exact (skip_false.1 h.1.2.1).2 a ha hm
  ·exact path_not o _ _ h.2 e a ha (by rw [Nat.testBit_or, hm]; rfl)
theorem good_rgood {k : Int} {cl : List Hi.C} {x : LP} (hk : Sp.newK k = k) (ho : OpsOk k cl) : ∀ (o : List Nat) (s : Sp.S) (m : Nat) (u : List Bool) (b : Nat), OkS s b → s.k = k → sameU cl m u → good cl (fun s => decide (Sp.contM s = x)) s m o → rgood k cl x (Sp.contM s) u o
 | [], s, m, u, b, hs, hsk, hu, h => by
  refine ⟨trivial, fun a ha => ?_, of_decide_eq_true h.2.2⟩
  rcases Int.lt_or_le (cl.getD a default).en 0 with g | g
  ·exact .inr g
  ·exact .inl (by rw [ruse, ← hu.2 a ha]; exact end_sub.1 h.2.1 a ha g)
 | i :: o, s, m, u, b, hs, hsk, hu, h => by
  have ht := good_tail h
  obtain ⟨⟨h1, h2, h3⟩, h4⟩ := ht
  have hra := rapp_ok (o := opC (cl.getD i default)) hs (by rw [hsk]; exact (ho i h1).1)
  rw [hsk] at hra
  have h2 := skip_false.1 h2
  have ih := good_rgood hk ho o (nxt cl s i) _ (u.set i true) (b + 1) (ok_apply hs (ho i h1).2) (by unfold nxt; rw [apply_k, hsk]) (sameU_set hu h1) h4
  obtain ⟨i1, i2, i3⟩ := ih
  refine ⟨⟨⟨h1, ?_, ⟨by rw [← hu.2 i h1]; exact h2.1, fun a ha hua hea hne hb => ?_⟩, ?_⟩, ?_⟩, i2, ?_⟩
  ·rintro ⟨a, ha, hua, hb⟩
   exact h2.2 a ha (by rw [hu.2 a ha]; exact hua) hb
  ·have hend := end_sub.1 h4.2.1 a ha hea
   rw [endU_bit, Nat.testBit_or, Nat.testBit_two_pow, hu.2 a ha, hua, decide_eq_false (Ne.symm hne), Bool.false_or, Bool.false_or, decide_eq_true_iff] at hend
   exact path_not o _ _ h4.1 hend i h1 (or_bit m i) hb
  ·intro hen
   unfold stepB at h3
   have := of_decide_eq_true h3 hen
   rw [hra]; exact this
  ·rw [hra]; exact i1
  ·rw [rend, hra]; exact i3
theorem path_len {cl : List Hi.C} : ∀ (o : List Nat) (s : Sp.S) (m : Nat), pathOk cl s m o → o.length ≤ freeN m cl.length
 | [], _, _, _ => Nat.zero_le _
 | i :: o, s, m, h => by
  have ih := path_len o _ _ h.2
  have := free_or m i (skip_false.1 h.1.2.1).1 cl.length h.1.1
  simp only [List.length_cons]; omega
theorem finals_iff {k : Int} {cl : List Hi.C} {x : LP} (hk : Sp.newK k = k) (ho : OpsOk k cl) : x ∈ finM k cl (cl.length + 1) (Sp.contM (ini k)) (List.replicate cl.length false) [] ↔ ∃ o, good cl (fun s => decide (Sp.contM s = x)) (ini k) 0 o := by
 have h0 : sameU cl 0 (List.replicate cl.length false) := ⟨List.length_replicate, fun i hi => by rw [Nat.zero_testBit, List.getD_eq_getElem?_getD, List.getElem?_replicate, if_pos hi]; rfl⟩
 rw [finM_mem]
 constructor
 ·rintro (h | ⟨o, _, h⟩)
  ·cases h
  ·exact ⟨o, rgood_good hk ho o (ini k) 0 _ 0 (ok_ini k hk) hk h0 h⟩
 ·rintro ⟨o, h⟩
  have hl := path_len o _ _ h.1
  have := free_le 0 cl.length
  exact .inr ⟨o, by omega, good_rgood hk ho o (ini k) 0 _ 0 (ok_ini k hk) hk h0 h⟩
end Go.Proofs.YtpcjeaaplidmaaaGreatDoor