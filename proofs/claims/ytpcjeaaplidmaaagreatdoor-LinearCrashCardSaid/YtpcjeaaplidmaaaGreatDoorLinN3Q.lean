/- Contracts of functions of this program, and the plain facts that they rest on. No conditions. -/
import Derived.Test.YtpcjeaaplidmaaaGreatDoorLinN2Q
import Derived.Test.YtpcjeaaplidmaaaGreatDoorLinRQ
import Derived.Test.YtpcjeaaplidmaaaGreatDoorLinTQ
import Derived.Test.YtpcjeaaplidmaaaGreatDoorLinV5Q
set_option linter.unusedSimpArgs false
set_option linter.unusedVariables false
namespace Go.Proofs.YtpcjeaaplidmaaaGreatDoor
open Go Go.Ab
attribute [local irreducible] callK callF loopQ vstep vskip pickE hideP
structure RelP (x : LP) (g : G) (r q : Bool × G) : Prop where
 no : r.1 = false
 mono : ∀ y, y ∈ g.acc → y ∈ r.2.acc
 hit : x ∈ r.2.acc → x ∈ g.acc ∨ q.1 = true
 same : x ∉ r.2.acc → q = r
theorem go_rel {cl : List Hi.C} {x : LP} {rec rec' : Sp.S → Nat → G → Bool × G} (hrec : ∀ s used g, RelP x g (rec s used g) (rec' s used g)) {s : Sp.S} {used : Nat} : ∀ m i g, RelP x g (goM cl rec s used m i g) (goM cl rec' s used m i g)
 | 0, _, g => ⟨rfl, fun _ h => h, fun h => .inl h, fun _ => rfl⟩
 | m + 1, i, g => by
  cases hs : skipB cl used i with
  | true => rw [goM_skip hs, goM_skip hs]; exact go_rel hrec m (i + 1) g
  | false =>
   cases hst : stepB cl s i with
   | false => rw [goM_no hs hst, goM_no hs hst]; exact go_rel hrec m (i + 1) g
   | true =>
    have h1 := hrec (Sp.applyM s (opC (cl.getD i default))).1 (used ||| 2 ^ i) ⟨g.seen, g.es.take g.n ++ [i], g.n + 1, g.acc⟩
    rw [goM_yes (rec := rec) hs hst rfl, goM_yes (rec := rec') hs hst rfl]
    generalize rec (Sp.applyM s (opC (cl.getD i default))).1 (used ||| 2 ^ i) ⟨g.seen, g.es.take g.n ++ [i], g.n + 1, g.acc⟩ = r at h1 ⊢
    generalize rec' (Sp.applyM s (opC (cl.getD i default))).1 (used ||| 2 ^ i) ⟨g.seen, g.es.take g.n ++ [i], g.n + 1, g.acc⟩ = q at h1 ⊢
    obtain ⟨a1, a2, a3, a4⟩ := h1
    dsimp only at a2 a3
    obtain ⟨b1, b2, b3, b4⟩ := go_rel hrec m (i + 1) ⟨r.2.seen, r.2.es, r.2.n - 1, r.2.acc⟩ (s := s) (used := used) (cl := cl)
    dsimp only at b2 b3
    rw [if_neg (show ¬ r.1 = true by rw [a1]; decide)]
    by_cases hx : x ∈ r.2.acc
    ·rcases a3 hx with h | h
     ·exact ⟨b1, fun y hy => b2 y (a2 y hy), fun _ => .inl h, fun hn => absurd (b2 x hx) hn⟩
     ·rw [if_pos h]
      exact ⟨b1, fun y hy => b2 y (a2 y hy), fun _ => .inr rfl, fun hn => absurd (b2 x hx) hn⟩
    ·have e := a4 hx
     rw [e, if_neg (show ¬ r.1 = true by rw [a1]; decide)]
     exact ⟨b1, fun y hy => b2 y (a2 y hy), fun h => (b3 h).elim (fun h => absurd h hx) .inr, b4⟩
theorem run_rel {cl : List Hi.C} {x : LP} : ∀ f s used g, RelP x g (runM cl fndP f s used g) (runM cl (fun s a => ((fun s => decide (Sp.contM s = x)) s, (fun s a => a ++ [Sp.contM s]) s a)) f s used g)
 | 0, _, _, g => ⟨rfl, fun _ h => h, fun h => .inl h, fun _ => rfl⟩
 | f + 1, s, used, g => by
  by_cases h0 : keyM s used ∈ g.seen
  ·rw [runM_seen h0, runM_seen h0]
   exact ⟨rfl, fun _ h => h, fun h => .inl h, fun _ => rfl⟩
  ·rw [runM_go h0, runM_go h0]
   have key := fun (acc : List LP) => go_rel (cl := cl) (x := x) (run_rel (cl := cl) (x := x) f) (s := s) (used := used) cl.length 0 ⟨keyM s used :: g.seen, g.es, g.n, acc⟩
   by_cases he : endN cl &&& used = endN cl
   ·rw [if_pos he, if_pos he, if_neg (show ¬ (fndP s g.acc).1 = true from Bool.false_ne_true)]
    obtain ⟨b1, b2, b3, b4⟩ := key (g.acc ++ [Sp.contM s])
    dsimp only at b2 b3
    by_cases hx : Sp.contM s = x
    ·rw [if_pos (by exact decide_eq_true hx)]
     exact ⟨b1, fun y hy => b2 y (List.mem_append_left _ hy), fun _ => .inr rfl, fun hn => absurd (b2 x (List.mem_append_right _ (by rw [hx]; exact List.mem_cons_self))) hn⟩
    ·rw [if_neg (fun h => hx (of_decide_eq_true h))]
     exact ⟨b1, fun y hy => b2 y (List.mem_append_left _ hy), fun h => (b3 h).imp (fun h => (List.mem_append.1 h).elim id fun h => absurd (List.mem_singleton.1 h).symm hx) id, b4⟩
   ·rw [if_neg he, if_neg he]
    obtain ⟨b1, b2, b3, b4⟩ := key g.acc
    exact ⟨b1, b2, b3, b4⟩
theorem pref_mem {k : Int} {l : List Hi.C} {x : LP} (hk : Sp.newK k = k) (hro : ∀ i, i < l.length → RngO (opC (l.getD i default))) (hl : l.length ≤ 10) : x ∈ (prefR k l).2.acc ↔ ∃ o, good l (fun s => decide (Sp.contM s = x)) (ini k) 0 o := by
 obtain ⟨a1, _, a3, a4⟩ := run_rel (cl := l) (x := x) 11 (ini k) 0 ⟨[], [], 0, []⟩
 constructor
 ·intro h
  rcases a3 h with h' | h'
  ·cases h'
  ·obtain ⟨o, _, h2⟩ := run_snd l (fun s => decide (Sp.contM s = x)) (fun s a => a ++ [Sp.contM s]) 11 (ini k) 0 ⟨[], [], 0, []⟩ (Nat.le_refl _) h'
   exact ⟨o, h2⟩
 ·rintro ⟨o, ho⟩
  refine Classical.byContradiction fun hn => ?_
  have e := a4 hn
  have hf : (runM l (fun s a => ((fun s => decide (Sp.contM s = x)) s, (fun s a => a ++ [Sp.contM s]) s a)) 11 (ini k) 0 ⟨[], [], 0, []⟩).1 = false := by rw [e]; exact a1
  exact (run_cmp k l (fun s => decide (Sp.contM s = x)) (fun s a => a ++ [Sp.contM s]) (fun s i => val_nxt hro s i) 11 (ini k) 0 ⟨[], [], 0, []⟩ (val_ini hk) (by have := free_le 0 l.length; omega) hf (fun s' u' _ _ hm => by cases hm)).1 o ho
def ltL (a b : LP) : Prop := cmpL a b < 0
theorem lt_of_le_ne {a b : LP} (h : leL a b) (k : a ≠ b) : ltL a b := by
 unfold leL at h; unfold ltL
 have := cmpL_neg a b
 have h0 := cmpL_0 a b
 by_cases e : cmpL a b = 0
 ·exact absurd (h0 e) k
 ·omega
theorem lt_asymm {a b : LP} (h : ltL a b) (k : ltL b a) : False := by
 unfold ltL at h k
 have := cmpL_neg a b
 omega
theorem lt_ne {a b : LP} (h : ltL a b) : a ≠ b := fun e => by subst e; exact lt_asymm h h
theorem eqS : ∀ l m : List LP, l.Pairwise ltL → m.Pairwise ltL → (∀ x, x ∈ l ↔ x ∈ m) → l = m
 | [], [], _, _, _ => rfl
 | [], b :: m, _, _, h => absurd ((h b).2 List.mem_cons_self) (by simp)
 | a :: l, [], _, _, h => absurd ((h a).1 List.mem_cons_self) (by simp)
 | a :: l, b :: m, h1, h2, h => by
  rw [List.pairwise_cons] at h1 h2
  have e : a = b := by
   rcases List.mem_cons.1 ((h a).1 List.mem_cons_self) with e | e
   ·exact e
   ·rcases List.mem_cons.1 ((h b).2 List.mem_cons_self) with e' | e'
    ·exact e'.symm
    ·exact (lt_asymm (h2.1 _ e) (h1.1 _ e')).elim
  subst e
  rw [eqS l m h1.2 h2.2 fun x => ?_]
  constructor
  ·intro hx
   rcases List.mem_cons.1 ((h x).1 (List.mem_cons_of_mem _ hx)) with e | e
   ·exact absurd e.symm (lt_ne (h1.1 _ hx))
   ·exact e
  ·intro hx
   rcases List.mem_cons.1 ((h x).2 (List.mem_cons_of_mem _ hx)) with e | e
   ·exact absurd e.symm (lt_ne (h2.1 _ hx))
   ·exact e
theorem dd_mem (x : LP) : ∀ l : List LP, x ∈ dd l ↔ x ∈ l
 | [] => Iff.rfl
 | [y] => Iff.rfl
 | y :: z :: r => by
  have ih := dd_mem x (z :: r)
  rw [dd_2]
  by_cases e : y = z
  ·rw [if_pos e, ih, e]; simp
  ·rw [if_neg e, List.mem_cons, ih, List.mem_cons (a := x) (b := y)]
theorem dd_pw : ∀ l : List LP, l.Pairwise leL → (dd l).Pairwise ltL
 | [], _ => List.Pairwise.nil
 | [y], _ => by rw [dd_1]; simp
 | y :: z :: r, h => by
  have h' := List.pairwise_cons.1 h
  have ih := dd_pw (z :: r) h'.2
  rw [dd_2]
  by_cases e : y = z
  ·rw [if_pos e]; exact ih
  ·rw [if_neg e, List.pairwise_cons]
   refine ⟨fun w hw => ?_, ih⟩
   have hw := (dd_mem w (z :: r)).1 hw
   refine lt_of_le_ne (h'.1 _ hw) fun hyw => ?_
   subst hyw
   rcases List.mem_cons.1 hw with e' | e'
   ·exact e e'
   ·exact e (leL_anti (h'.1 _ List.mem_cons_self) ((List.pairwise_cons.1 h'.2).1 _ e'))
def insR : List LP → LP → List LP
 | [], x => [x]
 | o :: t, x => if cmpL o x < 0 then o :: insR t x else x :: o :: t
theorem insL_R : ∀ (l : List LP) (x : LP), insL l x = insR l x
 | [], x => rfl
 | o :: t, x => by
  have ih := insL_R t x
  by_cases hc : cmpL o x < 0
  ·rw [insR, if_pos hc, ← ih]
   unfold insL
   rw [show atF (o :: t) x = atF t x + 1 from if_pos hc]
   rfl
  ·rw [insR, if_neg hc]
   unfold insL
   rw [show atF (o :: t) x = 0 from if_neg hc]
   rfl
theorem insR_mem {y : LP} : ∀ (l : List LP) (x : LP), y ∈ insR l x ↔ y = x ∨ y ∈ l
 | [], x => by simp [insR]
 | o :: t, x => by
  rw [insR]
  split
  ·rw [List.mem_cons, insR_mem t x, List.mem_cons]
   constructor <;> rintro (h | h | h) <;> simp [h]
  ·rw [List.mem_cons]
theorem insR_pw : ∀ (l : List LP) (x : LP), l.Pairwise ltL → x ∉ l → (insR l x).Pairwise ltL
 | [], x, _, _ => by simp [insR]
 | o :: t, x, h, hx => by
  have h' := List.pairwise_cons.1 h
  rw [insR]
  split
  ·rename_i hc
   rw [List.pairwise_cons]
   refine ⟨fun y hy => ?_, insR_pw t x h'.2 fun hh => hx (List.mem_cons_of_mem _ hh)⟩
   rcases (insR_mem t x).1 hy with e | e
   ·rw [e]; exact hc
   ·exact h'.1 _ e
  ·rename_i hc
   have h1 : ltL x o := lt_of_le_ne hc fun e => hx (by rw [e]; exact List.mem_cons_self)
   rw [List.pairwise_cons]
   refine ⟨fun y hy => ?_, h⟩
   rcases List.mem_cons.1 hy with e | e
   ·rw [e]; exact h1
   ·exact cmpL_tr _ _ _ h1 (h'.1 _ e)
theorem sF_pw {l : List LP} (hn : l.Nodup) : ∀ i, i ≤ l.length → (sF l i).Pairwise ltL
 | 0, _ => by rw [sF_0]; exact List.Pairwise.nil
 | i + 1, h => by
  rw [sF_s]
  show (insL (sF l i) (l.getD i default)).Pairwise ltL
  rw [insL_R]
  refine insR_pw _ _ (sF_pw hn i (by omega)) fun hm => ?_
  rw [sF_mem l _ i (by omega)] at hm
  obtain ⟨j, hj, e⟩ := List.mem_take_iff_getElem.1 hm
  rw [List.getD_eq_getElem?_getD, List.getElem?_eq_getElem (by omega)] at e
  have := (List.getElem_inj (h₀ := by omega) (h₁ := by omega) hn).1 e
  omega
theorem addF_nd {cl : List Hi.C} {s : LP} {u : List Bool} {out : List LP} (h : out.Nodup) : (addF cl s u out).Nodup := by
 unfold addF
 split
 ·rename_i hc
  rw [List.nodup_append]
  refine ⟨h, by simp, fun a ha b hb e => ?_⟩
  rw [List.mem_singleton] at hb
  subst e; subst hb; exact hc.2 ha
 ·exact h
theorem finGo_nd {k : Int} {cl : List Hi.C} {rec : LP → List Bool → List LP → List LP} (hr : ∀ s u out, out.Nodup → (rec s u out).Nodup) {s : LP} {u : List Bool} : ∀ m i out, out.Nodup → (finGo k cl rec s u m i out).Nodup
 | 0, _, _, h => h
 | m + 1, i, out, h => by
  rw [finGo]
  split
  ·exact finGo_nd hr m (i + 1) _ (hr _ _ _ h)
  ·exact finGo_nd hr m (i + 1) _ h
theorem finM_nd {k : Int} {cl : List Hi.C} : ∀ f s u out, out.Nodup → (finM k cl f s u out).Nodup
 | 0, _, _, _, h => h
 | f + 1, s, u, out, h => by
  rw [finM]
  exact finGo_nd (finM_nd f) _ _ _ (addF_nd h)
theorem pre_mem {k : Int} {cl : List Hi.C} {x : LP} (hk : Sp.newK k = k) (hro : ∀ i, i < cl.length → RngO (opC (cl.getD i default))) (hl : cl.length ≤ 10) : x ∈ preL k cl ↔ ∃ o, good cl (fun s => decide (Sp.contM s = x)) (ini k) 0 o := by
 unfold preL
 rw [dd_mem, (srtL_perm _).mem_iff, pref_mem hk hro hl]
theorem pre_fin {k : Int} {cl : List Hi.C} (hk : Sp.newK k = k) (ho : OpsOk k cl) (hl : cl.length ≤ 10) : preL k cl = sF (finR k cl) (finR k cl).length := by
 have hnd : (finR k cl).Nodup := by unfold finR; exact finM_nd _ _ _ _ List.nodup_nil
 refine eqS _ _ (dd_pw _ (srtL_pw _)) (sF_pw hnd _ (Nat.le_refl _)) fun x => ?_
 rw [pre_mem hk (fun i hi => (ho i hi).2) hl, sF_mem _ _ _ (Nat.le_refl _), List.take_length]
 unfold finR
 exact (finals_iff hk ho).symm
end Go.Proofs.YtpcjeaaplidmaaaGreatDoor