/- Contracts of functions of this program, and the plain facts that they rest on. No conditions. -/
import Derived.Test.YtpcjeaaplidmaaaGreatDoorLinV3Q
import Derived.Test.YtpcjeaaplidmaaaGreatDoorLinIQ
import Derived.Test.YtpcjeaaplidmaaaGreatDoorLinZQ
set_option linter.unusedSimpArgs false
set_option linter.unusedVariables false
namespace Go.Proofs.YtpcjeaaplidmaaaGreatDoor
open Go Go.Ab
attribute [local irreducible] callK callF loopQ vstep vskip pickE hideP
open Go.RowKit
set_option maxRecDepth 100000
attribute [local go_sem] Hi.rC Hi.hW Hi.hX eI eB eQ
set_option maxRecDepth 100000 in
set_option maxHeartbeats 4000000 in
theorem r50 (l : List Hi.C) (n e : Int) (u : List Bool) (i : Nat) (hi : i < l.length) (hu : u.length = l.length) (B : Bool) (hB : B = true ↔ mayU l u i) : PCalls Tryz.prog 50 [Hi.hW l n e, .view 1 (u.map eB), .v (.int .i64 i)] (.v (.bool B)) := by
 refine pcalls_facts ⟨_, rfl, rfl, by decide⟩ fun hf => ?_
 simp only [go_sem, big] at hf
 refine pcalls_of (E := E) (fn := Tryz.f50) 44 [.tmp 6] rfl rfl rfl rfl (by decide) rfl ?_
 have hud : ∀ a, u.getD a default = u.getD a false := fun a => rfl
 cases hui : u.getD i false with
 | true =>
  have hb : B = false := by
   cases B with
   | false => rfl
   | true => have := (hB.1 rfl).1; rw [hui] at this; cases this
  have hui2 : u.getD i default = true := hui
  subst hb
  repeat' (first
   | (with_reducible first | refine r_seq ?_ | refine r_block ?_ | refine fork_not ?_ | refine fork_and ?_ | refine fork_or ?_ | refine chk_ok (by kernel_rfl) ?_)
   | ((with_reducible first | refine fork_dec ?_ ?_ | refine fork_eq ?_ ?_ | refine fork_ne ?_ ?_ | refine fork_intro ?_ ?_) <;> intro h <;> try (exfalso; first | omega | exact h rfl | (revert h; decide) | (cases h; done)))
   | ((with_reducible show False); omega)
   | ((first | (with_reducible first | refine r_exit ?_ | refine r_skip ?_ | refine r_cond ?_ | refine r_region ?_ | refine r_ret ?_ | show VX _ _ _ _ _ _ _ | show vstep _ _ _ _ _ | show vskip _ _ _ | show withV _ _) | ((with_reducible show endA _ _ _ _ _ _ _); simp -implicitDefEqProofs only [endA]) | (with_reducible first | refine pick_viewG default (by first | omega | (simp only [LN, hui2]; omega)) (by first | omega | (simp only [LN, hui2]; omega)) ?_ | refine pick_own default (by first | omega | (simp only [LN, hui2]; omega)) ?_ | refine And.intro (by first | decide | omega | assumption | (simp only [LN, hui2]; omega)) ?_) | ((with_reducible show pickE _ _ _); first | refine pickE_intro _ ⟨by omega, by rfl⟩ ?_ | refine pickE_intro _ (by rfl) ?_) | fail); try simp -dsimp -implicitDefEqProofs (maxSteps := 1000000) (disch := first | omega | (simp only [LN, hui2]; omega)) only [go_sem, hui2])
   | fail)
  all_goals first | rfl | omega
 | false =>
  have hui2 : u.getD i default = false := hui
  repeat' (first
   | (with_reducible first | refine r_seq ?_ | refine r_block ?_ | refine fork_not ?_ | refine fork_and ?_ | refine fork_or ?_ | refine chk_ok (by kernel_rfl) ?_)
   | ((with_reducible first | refine fork_dec ?_ ?_ | refine fork_eq ?_ ?_ | refine fork_ne ?_ ?_ | refine fork_intro ?_ ?_) <;> intro h <;> try (exfalso; first | omega | exact h rfl | (revert h; decide) | (cases h; done)))
   | ((with_reducible show False); omega)
   | ((first | (with_reducible first | refine r_exit ?_ | refine r_skip ?_ | refine r_cond ?_ | refine r_region ?_ | refine r_ret ?_ | show VX _ _ _ _ _ _ _ | show vstep _ _ _ _ _ | show vskip _ _ _ | show withV _ _) | ((with_reducible show endA _ _ _ _ _ _ _); simp -implicitDefEqProofs only [endA]) | (with_reducible first | refine pick_viewG default (by first | omega | (simp only [LN, hui2]; omega)) (by first | omega | (simp only [LN, hui2]; omega)) ?_ | refine pick_own default (by first | omega | (simp only [LN, hui2]; omega)) ?_ | refine And.intro (by first | decide | omega | assumption | (simp only [LN, hui2]; omega)) ?_) | ((with_reducible show pickE _ _ _); first | refine pickE_intro _ ⟨by omega, by rfl⟩ ?_ | refine pickE_intro _ (by rfl) ?_) | fail); try simp -dsimp -implicitDefEqProofs (maxSteps := 1000000) (disch := first | omega | (simp only [LN, hui2]; omega)) only [go_sem, hui2])
   | fail)
  refine r_loopA (α := Nat) [1, 2, 3, 14] (fun a b => [(15, aI a)]) (fun a b => []) (fun a => []) (fun a => a ≤ l.length ∧ ∀ k, k < a → u.getD k false = false → 0 ≤ (l.getD k default).en → k ≠ i → ¬ Hi.befM l (k : Int) (i : Int)) (fun a => l.length - a) (0) ?h0_1 ?hs0_1 ?I_1 ?hI_1 ?round_1
  case hI_1 => intro x; (simp -dsimp -implicitDefEqProofs (maxSteps := 1000000) (disch := first | omega | (simp only [LN]; omega)) only [go_sem]) <;> exact rfl
  case hs0_1 => refine wk_auto ?_; (simp -dsimp -implicitDefEqProofs (maxSteps := 1000000) (disch := first | omega | (simp only [LN]; omega)) only [go_sem]) <;> (try omega)
  case h0_1 => exact ⟨Nat.zero_le _, fun j hj => absurd hj (by omega)⟩
  case round_1 =>
   rintro a ⟨a1, a2⟩
   by_cases ha : a < l.length
   ·have k43 := r43 l n e a i
    by_cases hc : u.getD a false = false → 0 ≤ (l.getD a default).en → a ≠ i → ¬ Hi.befM l (a : Int) (i : Int)
    ·have hn : ∀ k, k < a + 1 → u.getD k false = false → 0 ≤ (l.getD k default).en → k ≠ i → ¬ Hi.befM l (k : Int) (i : Int) := fun k hk => by
      rcases Nat.lt_or_ge k a with h4 | h4
      ·exact a2 k h4
      ·obtain rfl : k = a := by omega
       exact hc
     cases hua : u.getD a false with
     | true =>
      have hua2 : u.getD a default = true := hua
      repeat' (first
       | (with_reducible first | refine r_seq ?_ | refine r_block ?_ | refine fork_not ?_ | refine fork_and ?_ | refine fork_or ?_ | refine chk_ok (by kernel_rfl) ?_)
       | ((with_reducible first | refine fork_dec ?_ ?_ | refine fork_eq ?_ ?_ | refine fork_ne ?_ ?_ | refine fork_intro ?_ ?_) <;> intro h <;> try (exfalso; first | omega | exact h rfl | (revert h; decide) | (cases h; done)))
       | ((with_reducible show False); omega)
       | ((first | (with_reducible first | refine r_exit ?_ | refine r_skip ?_ | refine r_cond ?_ | refine r_region ?_ | refine r_ret ?_ | show VX _ _ _ _ _ _ _ | show vstep _ _ _ _ _ | show vskip _ _ _ | show withV _ _) | ((with_reducible show endA _ _ _ _ _ _ _); simp -implicitDefEqProofs only [endA]) | (with_reducible first | refine pick_viewG default (by first | omega | (simp only [LN, hua2]; omega)) (by first | omega | (simp only [LN, hua2]; omega)) ?_ | refine pick_own default (by first | omega | (simp only [LN, hua2]; omega)) ?_ | refine And.intro (by first | decide | omega | assumption | (simp only [LN, hua2]; omega)) ?_) | ((with_reducible apply callK_pure); (exact k43)) | ((with_reducible apply callF_lend); (exact k43); rfl) | ((with_reducible apply callF_go); (exact k43)) | ((with_reducible show pickE _ _ _); first | refine pickE_intro _ ⟨by omega, by rfl⟩ ?_ | refine pickE_intro _ (by rfl) ?_) | fail); try simp -dsimp -implicitDefEqProofs (maxSteps := 1000000) (disch := first | omega | (simp only [LN, hua2]; omega)) only [go_sem, hua2])
       | fail)
      all_goals first | omega | (refine loopQ_next (a + 1) ?_ ?_ ?_; (exact ⟨by omega, hn⟩); (show _ < _; omega); (simp -dsimp -implicitDefEqProofs (maxSteps := 1000000) (disch := first | omega | (simp only [LN]; omega)) only [go_sem]; try trivial))
     | false =>
      have hua2 : u.getD a default = false := hua
      have hc := hc hua
      by_cases he : 0 ≤ (l.getD a default).en
      ·have hc := hc he
       by_cases hne : a = i
       ·repeat' (first
         | (with_reducible first | refine r_seq ?_ | refine r_block ?_ | refine fork_not ?_ | refine fork_and ?_ | refine fork_or ?_ | refine chk_ok (by kernel_rfl) ?_)
         | ((with_reducible first | refine fork_dec ?_ ?_ | refine fork_eq ?_ ?_ | refine fork_ne ?_ ?_ | refine fork_intro ?_ ?_) <;> intro h <;> try (exfalso; first | omega | exact h rfl | (revert h; decide) | (cases h; done)))
         | ((with_reducible show False); omega)
         | ((first | (with_reducible first | refine r_exit ?_ | refine r_skip ?_ | refine r_cond ?_ | refine r_region ?_ | refine r_ret ?_ | show VX _ _ _ _ _ _ _ | show vstep _ _ _ _ _ | show vskip _ _ _ | show withV _ _) | ((with_reducible show endA _ _ _ _ _ _ _); simp -implicitDefEqProofs only [endA]) | (with_reducible first | refine pick_viewG default (by first | omega | (simp only [LN, hua2]; omega)) (by first | omega | (simp only [LN, hua2]; omega)) ?_ | refine pick_own default (by first | omega | (simp only [LN, hua2]; omega)) ?_ | refine And.intro (by first | decide | omega | assumption | (simp only [LN, hua2]; omega)) ?_) | ((with_reducible apply callK_pure); (exact k43)) | ((with_reducible apply callF_lend); (exact k43); rfl) | ((with_reducible apply callF_go); (exact k43)) | ((with_reducible show pickE _ _ _); first | refine pickE_intro _ ⟨by omega, by rfl⟩ ?_ | refine pickE_intro _ (by rfl) ?_) | fail); try simp -dsimp -implicitDefEqProofs (maxSteps := 1000000) (disch := first | omega | (simp only [LN, hua2]; omega)) only [go_sem, hua2])
         | fail)
        all_goals first | omega | (refine loopQ_next (a + 1) ?_ ?_ ?_; (exact ⟨by omega, hn⟩); (show _ < _; omega); (simp -dsimp -implicitDefEqProofs (maxSteps := 1000000) (disch := first | omega | (simp only [LN]; omega)) only [go_sem]; try trivial))
       ·rw [decide_eq_false (hc hne)] at k43
        repeat' (first
         | (with_reducible first | refine r_seq ?_ | refine r_block ?_ | refine fork_not ?_ | refine fork_and ?_ | refine fork_or ?_ | refine chk_ok (by kernel_rfl) ?_)
         | ((with_reducible first | refine fork_dec ?_ ?_ | refine fork_eq ?_ ?_ | refine fork_ne ?_ ?_ | refine fork_intro ?_ ?_) <;> intro h <;> try (exfalso; first | omega | exact h rfl | (revert h; decide) | (cases h; done)))
         | ((with_reducible show False); omega)
         | ((first | (with_reducible first | refine r_exit ?_ | refine r_skip ?_ | refine r_cond ?_ | refine r_region ?_ | refine r_ret ?_ | show VX _ _ _ _ _ _ _ | show vstep _ _ _ _ _ | show vskip _ _ _ | show withV _ _) | ((with_reducible show endA _ _ _ _ _ _ _); simp -implicitDefEqProofs only [endA]) | (with_reducible first | refine pick_viewG default (by first | omega | (simp only [LN, hua2]; omega)) (by first | omega | (simp only [LN, hua2]; omega)) ?_ | refine pick_own default (by first | omega | (simp only [LN, hua2]; omega)) ?_ | refine And.intro (by first | decide | omega | assumption | (simp only [LN, hua2]; omega)) ?_) | ((with_reducible apply callK_pure); (exact k43)) | ((with_reducible apply callF_lend); (exact k43); rfl) | ((with_reducible apply callF_go); (exact k43)) | ((with_reducible show pickE _ _ _); first | refine pickE_intro _ ⟨by omega, by rfl⟩ ?_ | refine pickE_intro _ (by rfl) ?_) | fail); try simp -dsimp -implicitDefEqProofs (maxSteps := 1000000) (disch := first | omega | (simp only [LN, hua2]; omega)) only [go_sem, hua2])
         | fail)
        all_goals first | omega | (refine loopQ_next (a + 1) ?_ ?_ ?_; (exact ⟨by omega, hn⟩); (show _ < _; omega); (simp -dsimp -implicitDefEqProofs (maxSteps := 1000000) (disch := first | omega | (simp only [LN]; omega)) only [go_sem]; try trivial))
      ·repeat' (first
        | (with_reducible first | refine r_seq ?_ | refine r_block ?_ | refine fork_not ?_ | refine fork_and ?_ | refine fork_or ?_ | refine chk_ok (by kernel_rfl) ?_)
        | ((with_reducible first | refine fork_dec ?_ ?_ | refine fork_eq ?_ ?_ | refine fork_ne ?_ ?_ | refine fork_intro ?_ ?_) <;> intro h <;> try (exfalso; first | omega | exact h rfl | (revert h; decide) | (cases h; done)))
        | ((with_reducible show False); omega)
        | ((first | (with_reducible first | refine r_exit ?_ | refine r_skip ?_ | refine r_cond ?_ | refine r_region ?_ | refine r_ret ?_ | show VX _ _ _ _ _ _ _ | show vstep _ _ _ _ _ | show vskip _ _ _ | show withV _ _) | ((with_reducible show endA _ _ _ _ _ _ _); simp -implicitDefEqProofs only [endA]) | (with_reducible first | refine pick_viewG default (by first | omega | (simp only [LN, hua2]; omega)) (by first | omega | (simp only [LN, hua2]; omega)) ?_ | refine pick_own default (by first | omega | (simp only [LN, hua2]; omega)) ?_ | refine And.intro (by first | decide | omega | assumption | (simp only [LN, hua2]; omega)) ?_) | ((with_reducible apply callK_pure); (exact k43)) | ((with_reducible apply callF_lend); (exact k43); rfl) | ((with_reducible apply callF_go); (exact k43)) | ((with_reducible show pickE _ _ _); first | refine pickE_intro _ ⟨by omega, by rfl⟩ ?_ | refine pickE_intro _ (by rfl) ?_) | fail); try simp -dsimp -implicitDefEqProofs (maxSteps := 1000000) (disch := first | omega | (simp only [LN, hua2]; omega)) only [go_sem, hua2])
        | fail)
       all_goals first | omega | (refine loopQ_next (a + 1) ?_ ?_ ?_; (exact ⟨by omega, hn⟩); (show _ < _; omega); (simp -dsimp -implicitDefEqProofs (maxSteps := 1000000) (disch := first | omega | (simp only [LN]; omega)) only [go_sem]; try trivial))
    ·have hc : u.getD a false = false ∧ 0 ≤ (l.getD a default).en ∧ a ≠ i ∧ Hi.befM l (a : Int) (i : Int) := by
      refine Classical.byContradiction fun h => hc fun h1 h2 h3 h4 => h ⟨h1, h2, h3, h4⟩
     have hb : B = false := by
      cases B with
      | false => rfl
      | true => exact absurd hc.2.2.2 ((hB.1 rfl).2 a ha hc.1 hc.2.1 hc.2.2.1)
     subst hb
     have hua2 : u.getD a default = false := hc.1
     rw [decide_eq_true hc.2.2.2] at k43
     have hc1 := hc.2.1
     have hc2 := hc.2.2.1
     repeat' (first
      | (with_reducible first | refine r_seq ?_ | refine r_block ?_ | refine fork_not ?_ | refine fork_and ?_ | refine fork_or ?_ | refine chk_ok (by kernel_rfl) ?_)
      | ((with_reducible first | refine fork_dec ?_ ?_ | refine fork_eq ?_ ?_ | refine fork_ne ?_ ?_ | refine fork_intro ?_ ?_) <;> intro h <;> try (exfalso; first | omega | exact h rfl | (revert h; decide) | (cases h; done)))
      | ((with_reducible show False); omega)
      | ((first | (with_reducible first | refine r_exit ?_ | refine r_skip ?_ | refine r_cond ?_ | refine r_region ?_ | refine r_ret ?_ | show VX _ _ _ _ _ _ _ | show vstep _ _ _ _ _ | show vskip _ _ _ | show withV _ _) | ((with_reducible show endA _ _ _ _ _ _ _); simp -implicitDefEqProofs only [endA]) | (with_reducible first | refine pick_viewG default (by first | omega | (simp only [LN, hua2]; omega)) (by first | omega | (simp only [LN, hua2]; omega)) ?_ | refine pick_own default (by first | omega | (simp only [LN, hua2]; omega)) ?_ | refine And.intro (by first | decide | omega | assumption | (simp only [LN, hua2]; omega)) ?_) | ((with_reducible apply callK_pure); (exact k43)) | ((with_reducible apply callF_lend); (exact k43); rfl) | ((with_reducible apply callF_go); (exact k43)) | ((with_reducible show pickE _ _ _); first | refine pickE_intro _ ⟨by omega, by rfl⟩ ?_ | refine pickE_intro _ (by rfl) ?_) | fail); try simp -dsimp -implicitDefEqProofs (maxSteps := 1000000) (disch := first | omega | (simp only [LN, hua2]; omega)) only [go_sem, hua2])
      | fail)
     all_goals first | rfl | omega
   ·obtain rfl : a = l.length := by omega
    have hb : B = true := hB.2 ⟨hui, a2⟩
    subst hb
    repeat' (first
     | (with_reducible first | refine r_seq ?_ | refine r_block ?_ | refine fork_not ?_ | refine fork_and ?_ | refine fork_or ?_ | refine chk_ok (by kernel_rfl) ?_)
     | ((with_reducible first | refine fork_dec ?_ ?_ | refine fork_eq ?_ ?_ | refine fork_ne ?_ ?_ | refine fork_intro ?_ ?_) <;> intro h <;> try (exfalso; first | omega | exact h rfl | (revert h; decide) | (cases h; done)))
     | ((with_reducible show False); omega)
     | ((first | (with_reducible first | refine r_exit ?_ | refine r_skip ?_ | refine r_cond ?_ | refine r_region ?_ | refine r_ret ?_ | show VX _ _ _ _ _ _ _ | show vstep _ _ _ _ _ | show vskip _ _ _ | show withV _ _) | ((with_reducible show endA _ _ _ _ _ _ _); simp -implicitDefEqProofs only [endA]) | (with_reducible first | refine pick_viewG default (by first | omega | (simp only [LN]; omega)) (by first | omega | (simp only [LN]; omega)) ?_ | refine pick_own default (by first | omega | (simp only [LN]; omega)) ?_ | refine And.intro (by first | decide | omega | assumption | (simp only [LN]; omega)) ?_) | ((with_reducible show pickE _ _ _); first | refine pickE_intro _ ⟨by omega, by rfl⟩ ?_ | refine pickE_intro _ (by rfl) ?_) | fail); try simp -dsimp -implicitDefEqProofs (maxSteps := 1000000) (disch := first | omega | (simp only [LN]; omega)) only [go_sem])
     | fail)
    all_goals first | rfl | omega
theorem finGo_0 {k : Int} {cl : List Hi.C} {rec : LP → List Bool → List LP → List LP} {s : LP} {u : List Bool} {i : Nat} {out : List LP} : finGo k cl rec s u 0 i out = out := rfl
theorem finGo_yes {k : Int} {cl : List Hi.C} {rec : LP → List Bool → List LP → List LP} {s : LP} {u : List Bool} {m i : Nat} {out : List LP} (h : canU k cl s u i) : finGo k cl rec s u (m + 1) i out = finGo k cl rec s u m (i + 1) (rec (rapp k s (opC (cl.getD i default))).1 (u.set i true) out) := by rw [finGo, if_pos h]
theorem finGo_no {k : Int} {cl : List Hi.C} {rec : LP → List Bool → List LP → List LP} {s : LP} {u : List Bool} {m i : Nat} {out : List LP} (h : ¬ canU k cl s u i) : finGo k cl rec s u (m + 1) i out = finGo k cl rec s u m (i + 1) out := by rw [finGo, if_neg h]
theorem addF_len (cl : List Hi.C) (s : LP) (u : List Bool) (out : List LP) : (addF cl s u out).length ≤ out.length + 1 := by
 unfold addF; split
 ·simp
 ·omega
theorem finGo_len {k : Int} {cl : List Hi.C} {rec : LP → List Bool → List LP → List LP} {c : Nat} (hr : ∀ s u out, (rec s u out).length ≤ out.length + c) {s : LP} {u : List Bool} : ∀ m i out, (finGo k cl rec s u m i out).length ≤ out.length + m * c
 | 0, i, out => by rw [finGo_0]; omega
 | m + 1, i, out => by
  rw [Nat.succ_mul]
  by_cases h : canU k cl s u i
  ·rw [finGo_yes h]
   have := finGo_len (k := k) (cl := cl) hr (s := s) (u := u) m (i + 1) (rec (rapp k s (opC (cl.getD i default))).1 (u.set i true) out)
   have h2 := hr (rapp k s (opC (cl.getD i default))).1 (u.set i true) out
   omega
  ·rw [finGo_no h]
   have := finGo_len (k := k) (cl := cl) hr (s := s) (u := u) m (i + 1) out
   omega
theorem finM_len {k : Int} {cl : List Hi.C} (hl : cl.length ≤ 10) : ∀ f s u out, (finM k cl f s u out).length ≤ out.length + cntF f
 | 0, s, u, out => by rw [finM]; omega
 | f + 1, s, u, out => by
  rw [finM, cnt_s]
  have h1 := finGo_len (k := k) (cl := cl) (rec := finM k cl f) (c := cntF f) (fun s u out => finM_len hl f s u out) (s := s) (u := u) cl.length 0 (addF cl s u out)
  have h2 := addF_len cl s u out
  have h3 : cl.length * cntF f ≤ 10 * cntF f := Nat.mul_le_mul_right _ hl
  omega
def RunF (k n e : Int) (cl : List Hi.C) (f : Nat) : Prop := ∀ (S : Sp.S) (b m : Nat) (u : List Bool) (out : List LP), OkS S b → S.k = k → b + f ≤ 100 → sameU cl m u → freeN m cl.length < f → out.length + cntF f ≤ 100000000000 →
 PCalls Tryz.prog 28 [.v (.int .i64 k), Hi.hW cl n e, .view 2 ((Sp.contM S).map Sp.eP), .view 1 (u.map eB), .view 1 (out.map eL)] (.view 1 ((finM k cl f (Sp.contM S) u out).map eL))
attribute [local go_sem] eL
theorem addF_no {cl : List Hi.C} {s : LP} {u : List Bool} {out : List LP} (h : ¬ (allU cl u ∧ s ∉ out)) : addF cl s u out = out := if_neg h
theorem addF_yes {cl : List Hi.C} {s : LP} {u : List Bool} {out : List LP} (h : allU cl u ∧ s ∉ out) : addF cl s u out = out ++ [s] := if_pos h
theorem mem_idx {l : List LP} {s : LP} : s ∈ l ↔ ∃ m, m < l.length ∧ l.getD m default = s := by
 constructor
 ·intro h
  obtain ⟨j, hj, e⟩ := List.mem_iff_getElem.1 h
  exact ⟨j, hj, by rw [Hi.getD_get _ _ _ hj]; exact e⟩
 ·rintro ⟨m, hm, e⟩
  rw [← e, Hi.getD_get _ _ _ hm]; exact List.getElem_mem hm
attribute [local irreducible] cntF finM addF rapp
set_option maxRecDepth 100000 in
set_option maxHeartbeats 4000000 in
theorem r28s (k n e : Int) (cl : List Hi.C) (hk : Sp.newK k = k) (ho : OpsOk k cl) (hl : cl.length ≤ 10) (f : Nat) (ih : RunF k n e cl f) (S : Sp.S) (b m : Nat) (u : List Bool) (out : List LP) (hs : OkS S b) (hsk : S.k = k) (hb : b + (f + 1) ≤ 100) (hu : sameU cl m u) (hfr : freeN m cl.length < f + 1) (hout : out.length + cntF (f + 1) ≤ 100000000000) (R : List LP) (hR : finGo k cl (finM k cl f) (Sp.contM S) u cl.length 0 (addF cl (Sp.contM S) u out) = R) : PCalls Tryz.prog 28 [.v (.int .i64 k), Hi.hW cl n e, .view 2 ((Sp.contM S).map Sp.eP), .view 1 (u.map eB), .view 1 (out.map eL)] (.view 1 (R.map eL)) := by
 refine pcalls_facts ⟨_, rfl, rfl, by decide⟩ fun hf => ?_
 simp only [go_sem, big] at hf
 refine pcalls_of (E := E) (fn := Tryz.f28) 134 [.tmp 10] rfl rfl rfl rfl (by decide) rfl ?_
 have hcl := Sp.cont_len hs.inv
 have hcf := cnt_s f
 have hul := hu.1
 have hal := addF_len cl (Sp.contM S) u out
 have hS : ∀ i, i < cl.length → rapp k (Sp.contM S) (opC (cl.getD i default)) = (Sp.contM (Sp.applyM S (opC (cl.getD i default))).1, (Sp.applyM S (opC (cl.getD i default))).2) := fun i hi => by
  have := rapp_ok (o := opC (cl.getD i default)) hs (by rw [hsk]; exact (ho i hi).1)
  rw [hsk] at this; exact this
 obtain ⟨A, hA⟩ : ∃ A, addF cl (Sp.contM S) u out = A := ⟨_, rfl⟩
 rw [hA] at hR hal
 generalize hs2 : Sp.contM S = s at *
 repeat' (first
  | (with_reducible first | refine r_seq ?_ | refine r_block ?_ | refine fork_not ?_ | refine fork_and ?_ | refine fork_or ?_ | refine chk_ok (by kernel_rfl) ?_)
  | ((with_reducible first | refine fork_dec ?_ ?_ | refine fork_eq ?_ ?_ | refine fork_ne ?_ ?_ | refine fork_intro ?_ ?_) <;> intro h <;> try (exfalso; first | omega | exact h rfl | (revert h; decide) | (cases h; done)))
  | ((with_reducible show False); omega)
  | ((first | (with_reducible first | refine r_exit ?_ | refine r_skip ?_ | refine r_cond ?_ | refine r_region ?_ | refine r_ret ?_ | show VX _ _ _ _ _ _ _ | show vstep _ _ _ _ _ | show vskip _ _ _ | show withV _ _) | ((with_reducible show endA _ _ _ _ _ _ _); simp -implicitDefEqProofs only [endA]) | (with_reducible first | refine pick_viewG default (by first | omega | (simp only [LN]; omega)) (by first | omega | (simp only [LN]; omega)) ?_ | refine pick_own default (by first | omega | (simp only [LN]; omega)) ?_ | refine And.intro (by first | decide | omega | assumption | (simp only [LN]; omega)) ?_) | ((with_reducible show pickE _ _ _); first | refine pickE_intro _ ⟨by omega, by rfl⟩ ?_ | refine pickE_intro _ (by rfl) ?_) | fail); try simp -dsimp -implicitDefEqProofs (maxSteps := 1000000) (disch := first | omega | (simp only [LN]; omega)) only [go_sem])
  | fail)
 refine r_loopA (α := Nat × Bool) [0, 2, 3, 4, 6, 25, 26] (fun q b => [(11, .p (.v (.bool q.2))), (27, aI q.1)]) (fun q b => []) (fun q => []) (fun q => q.1 ≤ cl.length ∧ (q.2 = true ↔ ∀ j, j < q.1 → u.getD j false = true ∨ (cl.getD j default).en < 0)) (fun q => cl.length - q.1) ((0, true)) ?h0_2 ?hs0_2 ?I_2 ?hI_2 ?round_2
 case hI_2 => intro x; (simp -dsimp -implicitDefEqProofs (maxSteps := 1000000) (disch := first | omega | (simp only [LN]; omega)) only [go_sem]) <;> exact rfl
 case hs0_2 => refine wk_auto ?_; (simp -dsimp -implicitDefEqProofs (maxSteps := 1000000) (disch := first | omega | (simp only [LN]; omega)) only [go_sem]) <;> (try omega)
 case h0_2 => exact ⟨Nat.zero_le _, fun _ j hj => absurd hj (by dsimp only; omega), fun _ => rfl⟩
 case round_2 =>
  rintro ⟨i, B⟩ ⟨a1, a2⟩
  dsimp only at a1 a2
  by_cases hi : i < cl.length
  ·have hud : u.getD i default = u.getD i false := rfl
   by_cases hc : u.getD i false = true ∨ (cl.getD i default).en < 0
   ·have hn : B = true ↔ ∀ j, j < i + 1 → u.getD j false = true ∨ (cl.getD j default).en < 0 := by
     rw [a2]
     constructor
     ·intro h j hj
      rcases Nat.lt_or_ge j i with h4 | h4
      ·exact h j h4
      ·obtain rfl : j = i := by omega
       exact hc
     ·intro h j hj; exact h j (by omega)
    cases B with
    | false =>
     repeat' (first
      | (with_reducible first | refine r_seq ?_ | refine r_block ?_ | refine fork_not ?_ | refine fork_and ?_ | refine fork_or ?_ | refine chk_ok (by kernel_rfl) ?_)
      | ((with_reducible first | refine fork_dec ?_ ?_ | refine fork_eq ?_ ?_ | refine fork_ne ?_ ?_ | refine fork_intro ?_ ?_) <;> intro h <;> try (exfalso; first | omega | exact h rfl | (revert h; decide) | (cases h; done)))
      | ((with_reducible show False); omega)
      | ((first | (with_reducible first | refine r_exit ?_ | refine r_skip ?_ | refine r_cond ?_ | refine r_region ?_ | refine r_ret ?_ | show VX _ _ _ _ _ _ _ | show vstep _ _ _ _ _ | show vskip _ _ _ | show withV _ _) | ((with_reducible show endA _ _ _ _ _ _ _); simp -implicitDefEqProofs only [endA]) | (with_reducible first | refine pick_viewG default (by first | omega | (simp only [LN, hul]; omega)) (by first | omega | (simp only [LN, hul]; omega)) ?_ | refine pick_own default (by first | omega | (simp only [LN, hul]; omega)) ?_ | refine And.intro (by first | decide | omega | assumption | (simp only [LN, hul]; omega)) ?_) | ((with_reducible show pickE _ _ _); first | refine pickE_intro _ ⟨by omega, by rfl⟩ ?_ | refine pickE_intro _ (by rfl) ?_) | fail); try simp -dsimp -implicitDefEqProofs (maxSteps := 1000000) (disch := first | omega | (simp only [LN, hul]; omega)) only [go_sem, hul])
      | fail)
     all_goals first | omega | (refine loopQ_next ((i + 1, false)) ?_ ?_ ?_; (exact ⟨by dsimp only; omega, hn⟩); (show _ < _; omega); (simp -dsimp -implicitDefEqProofs (maxSteps := 1000000) (disch := first | omega | (simp only [LN]; omega)) only [go_sem]; try trivial))
    | true =>
     cases hua : u.getD i false with
     | true =>
      rw [hua] at hud
      repeat' (first
       | (with_reducible first | refine r_seq ?_ | refine r_block ?_ | refine fork_not ?_ | refine fork_and ?_ | refine fork_or ?_ | refine chk_ok (by kernel_rfl) ?_)
       | ((with_reducible first | refine fork_dec ?_ ?_ | refine fork_eq ?_ ?_ | refine fork_ne ?_ ?_ | refine fork_intro ?_ ?_) <;> intro h <;> try (exfalso; first | omega | exact h rfl | (revert h; decide) | (cases h; done)))
       | ((with_reducible show False); omega)
       | ((first | (with_reducible first | refine r_exit ?_ | refine r_skip ?_ | refine r_cond ?_ | refine r_region ?_ | refine r_ret ?_ | show VX _ _ _ _ _ _ _ | show vstep _ _ _ _ _ | show vskip _ _ _ | show withV _ _) | ((with_reducible show endA _ _ _ _ _ _ _); simp -implicitDefEqProofs only [endA]) | (with_reducible first | refine pick_viewG default (by first | omega | (simp only [LN, hud, hul]; omega)) (by first | omega | (simp only [LN, hud, hul]; omega)) ?_ | refine pick_own default (by first | omega | (simp only [LN, hud, hul]; omega)) ?_ | refine And.intro (by first | decide | omega | assumption | (simp only [LN, hud, hul]; omega)) ?_) | ((with_reducible show pickE _ _ _); first | refine pickE_intro _ ⟨by omega, by rfl⟩ ?_ | refine pickE_intro _ (by rfl) ?_) | fail); try simp -dsimp -implicitDefEqProofs (maxSteps := 1000000) (disch := first | omega | (simp only [LN, hud, hul]; omega)) only [go_sem, hud, hul])
       | fail)
      all_goals first | omega | (refine loopQ_next ((i + 1, true)) ?_ ?_ ?_; (exact ⟨by dsimp only; omega, hn⟩); (show _ < _; omega); (simp -dsimp -implicitDefEqProofs (maxSteps := 1000000) (disch := first | omega | (simp only [LN]; omega)) only [go_sem]; try trivial))
     | false =>
      rw [hua] at hud
      have hen : (cl.getD i default).en < 0 := hc.resolve_left (by rw [hua]; exact Bool.false_ne_true)
      repeat' (first
       | (with_reducible first | refine r_seq ?_ | refine r_block ?_ | refine fork_not ?_ | refine fork_and ?_ | refine fork_or ?_ | refine chk_ok (by kernel_rfl) ?_)
       | ((with_reducible first | refine fork_dec ?_ ?_ | refine fork_eq ?_ ?_ | refine fork_ne ?_ ?_ | refine fork_intro ?_ ?_) <;> intro h <;> try (exfalso; first | omega | exact h rfl | (revert h; decide) | (cases h; done)))
       | ((with_reducible show False); omega)
       | ((first | (with_reducible first | refine r_exit ?_ | refine r_skip ?_ | refine r_cond ?_ | refine r_region ?_ | refine r_ret ?_ | show VX _ _ _ _ _ _ _ | show vstep _ _ _ _ _ | show vskip _ _ _ | show withV _ _) | ((with_reducible show endA _ _ _ _ _ _ _); simp -implicitDefEqProofs only [endA]) | (with_reducible first | refine pick_viewG default (by first | omega | (simp only [LN, hud, hul]; omega)) (by first | omega | (simp only [LN, hud, hul]; omega)) ?_ | refine pick_own default (by first | omega | (simp only [LN, hud, hul]; omega)) ?_ | refine And.intro (by first | decide | omega | assumption | (simp only [LN, hud, hul]; omega)) ?_) | ((with_reducible show pickE _ _ _); first | refine pickE_intro _ ⟨by omega, by rfl⟩ ?_ | refine pickE_intro _ (by rfl) ?_) | fail); try simp -dsimp -implicitDefEqProofs (maxSteps := 1000000) (disch := first | omega | (simp only [LN, hud, hul]; omega)) only [go_sem, hud, hul])
       | fail)
      all_goals first
       | omega
       | (refine loopQ_next ((i + 1, true)) ?_ ?_ ?_; (exact ⟨by dsimp only; omega, hn⟩); (show _ < _; omega); (simp -dsimp -implicitDefEqProofs (maxSteps := 1000000) (disch := first | omega | (simp only [LN, decide_eq_true hen]; omega)) only [go_sem, decide_eq_true hen]; try trivial))
       | (rw [decide_eq_true hen]; (refine loopQ_next ((i + 1, true)) ?_ ?_ ?_; (exact ⟨by dsimp only; omega, hn⟩); (show _ < _; omega); (simp -dsimp -implicitDefEqProofs (maxSteps := 1000000) (disch := first | omega | (simp only [LN]; omega)) only [go_sem]; try trivial)))
   ·have hua : u.getD i false = false := by
     cases h : u.getD i false with
     | false => rfl
     | true => exact absurd (.inl h) hc
    have hen : ¬ (cl.getD i default).en < 0 := fun h => hc (.inr h)
    have hn : false = true ↔ ∀ j, j < i + 1 → u.getD j false = true ∨ (cl.getD j default).en < 0 := ⟨fun h => (Bool.noConfusion h), fun h => absurd (h i (by omega)) hc⟩
    rw [hua] at hud
    cases B with
    | false =>
     repeat' (first
      | (with_reducible first | refine r_seq ?_ | refine r_block ?_ | refine fork_not ?_ | refine fork_and ?_ | refine fork_or ?_ | refine chk_ok (by kernel_rfl) ?_)
      | ((with_reducible first | refine fork_dec ?_ ?_ | refine fork_eq ?_ ?_ | refine fork_ne ?_ ?_ | refine fork_intro ?_ ?_) <;> intro h <;> try (exfalso; first | omega | exact h rfl | (revert h; decide) | (cases h; done)))
      | ((with_reducible show False); omega)
      | ((first | (with_reducible first | refine r_exit ?_ | refine r_skip ?_ | refine r_cond ?_ | refine r_region ?_ | refine r_ret ?_ | show VX _ _ _ _ _ _ _ | show vstep _ _ _ _ _ | show vskip _ _ _ | show withV _ _) | ((with_reducible show endA _ _ _ _ _ _ _); simp -implicitDefEqProofs only [endA]) | (with_reducible first | refine pick_viewG default (by first | omega | (simp only [LN, hud, hul]; omega)) (by first | omega | (simp only [LN, hud, hul]; omega)) ?_ | refine pick_own default (by first | omega | (simp only [LN, hud, hul]; omega)) ?_ | refine And.intro (by first | decide | omega | assumption | (simp only [LN, hud, hul]; omega)) ?_) | ((with_reducible show pickE _ _ _); first | refine pickE_intro _ ⟨by omega, by rfl⟩ ?_ | refine pickE_intro _ (by rfl) ?_) | fail); try simp -dsimp -implicitDefEqProofs (maxSteps := 1000000) (disch := first | omega | (simp only [LN, hud, hul]; omega)) only [go_sem, hud, hul])
      | fail)
     all_goals first | omega | (refine loopQ_next ((i + 1, false)) ?_ ?_ ?_; (exact ⟨by dsimp only; omega, hn⟩); (show _ < _; omega); (simp -dsimp -implicitDefEqProofs (maxSteps := 1000000) (disch := first | omega | (simp only [LN]; omega)) only [go_sem]; try trivial))
    | true =>
     repeat' (first
      | (with_reducible first | refine r_seq ?_ | refine r_block ?_ | refine fork_not ?_ | refine fork_and ?_ | refine fork_or ?_ | refine chk_ok (by kernel_rfl) ?_)
      | ((with_reducible first | refine fork_dec ?_ ?_ | refine fork_eq ?_ ?_ | refine fork_ne ?_ ?_ | refine fork_intro ?_ ?_) <;> intro h <;> try (exfalso; first | omega | exact h rfl | (revert h; decide) | (cases h; done)))
      | ((with_reducible show False); omega)
      | ((first | (with_reducible first | refine r_exit ?_ | refine r_skip ?_ | refine r_cond ?_ | refine r_region ?_ | refine r_ret ?_ | show VX _ _ _ _ _ _ _ | show vstep _ _ _ _ _ | show vskip _ _ _ | show withV _ _) | ((with_reducible show endA _ _ _ _ _ _ _); simp -implicitDefEqProofs only [endA]) | (with_reducible first | refine pick_viewG default (by first | omega | (simp only [LN, hud, hul]; omega)) (by first | omega | (simp only [LN, hud, hul]; omega)) ?_ | refine pick_own default (by first | omega | (simp only [LN, hud, hul]; omega)) ?_ | refine And.intro (by first | decide | omega | assumption | (simp only [LN, hud, hul]; omega)) ?_) | ((with_reducible show pickE _ _ _); first | refine pickE_intro _ ⟨by omega, by rfl⟩ ?_ | refine pickE_intro _ (by rfl) ?_) | fail); try simp -dsimp -implicitDefEqProofs (maxSteps := 1000000) (disch := first | omega | (simp only [LN, hud, hul]; omega)) only [go_sem, hud, hul])
      | fail)
     all_goals first
      | omega
      | (refine loopQ_next ((i + 1, false)) ?_ ?_ ?_; (exact ⟨by dsimp only; omega, hn⟩); (show _ < _; omega); (simp -dsimp -implicitDefEqProofs (maxSteps := 1000000) (disch := first | omega | (simp only [LN, decide_eq_false hen]; omega)) only [go_sem, decide_eq_false hen]; try trivial))
  ·obtain rfl : i = cl.length := by omega
   have hst : (B = true ∧ A = (if s ∈ out then out else out ++ [s])) ∨ (B = false ∧ A = out) := by
    cases B with
    | false =>
     refine .inr ⟨rfl, ?_⟩
     rw [← hA, addF_no]
     rintro ⟨h, _⟩
     exact absurd (a2.2 h) Bool.false_ne_true
    | true =>
     refine .inl ⟨rfl, ?_⟩
     have h := a2.1 rfl
     rw [← hA]
     by_cases hm : s ∈ out
     ·rw [addF_no (fun hh => hh.2 hm), if_pos hm]
     ·rw [addF_yes ⟨h, hm⟩, if_neg hm]
   clear a1 a2
   repeat' ((fail_if_success (with_reducible show awp _ _ (Code.seq (Code.seq (Code.region 7 _ _) (Code.cond _ _ _)) _) _ _)); first
    | (with_reducible first | refine r_seq ?_ | refine r_block ?_ | refine fork_not ?_ | refine fork_and ?_ | refine fork_or ?_ | refine chk_ok (by kernel_rfl) ?_)
    | ((with_reducible first | refine fork_dec ?_ ?_ | refine fork_eq ?_ ?_ | refine fork_ne ?_ ?_ | refine fork_intro ?_ ?_) <;> intro h <;> try (exfalso; first | omega | exact h rfl | (revert h; decide) | (cases h; done)))
    | ((with_reducible show False); omega)
    | ((first | (with_reducible first | refine r_exit ?_ | refine r_skip ?_ | refine r_cond ?_ | refine r_region ?_ | refine r_ret ?_ | show VX _ _ _ _ _ _ _ | show vstep _ _ _ _ _ | show vskip _ _ _ | show withV _ _) | ((with_reducible show endA _ _ _ _ _ _ _); simp -implicitDefEqProofs only [endA]) | (with_reducible first | refine pick_viewG default (by first | omega | (simp only [LN]; omega)) (by first | omega | (simp only [LN]; omega)) ?_ | refine pick_own default (by first | omega | (simp only [LN]; omega)) ?_ | refine And.intro (by first | decide | omega | assumption | (simp only [LN]; omega)) ?_) | ((with_reducible show pickE _ _ _); first | refine pickE_intro _ ⟨by omega, by rfl⟩ ?_ | refine pickE_intro _ (by rfl) ?_) | fail); try simp -dsimp -implicitDefEqProofs (maxSteps := 1000000) (disch := first | omega | (simp only [LN]; omega)) only [go_sem])
    | fail)
   refine r_cut (α := Nat) [0, 2, 3, 6] (fun x b => [(4, .p (.view 1 (A.map eL)))]) (fun x b => []) (fun x => []) (fun x => x ≤ 5) ?I_3 ?hI_3 ?way_3 ?rest_3
   case hI_3 => intro x; (simp -dsimp -implicitDefEqProofs (maxSteps := 1000000) (disch := first | omega | (simp only [LN]; omega)) only [go_sem]) <;> exact rfl
   case way_3 =>
    rcases hst with ⟨rfl, hst⟩ | ⟨rfl, hst⟩
    ·repeat' (first
      | (with_reducible first | refine r_seq ?_ | refine r_block ?_ | refine fork_not ?_ | refine fork_and ?_ | refine fork_or ?_ | refine chk_ok (by kernel_rfl) ?_)
      | ((with_reducible first | refine fork_dec ?_ ?_ | refine fork_eq ?_ ?_ | refine fork_ne ?_ ?_ | refine fork_intro ?_ ?_) <;> intro h <;> try (exfalso; first | omega | exact h rfl | (revert h; decide) | (cases h; done)))
      | ((with_reducible show False); omega)
      | ((first | (with_reducible first | refine r_exit ?_ | refine r_skip ?_ | refine r_cond ?_ | refine r_region ?_ | refine r_ret ?_ | show VX _ _ _ _ _ _ _ | show vstep _ _ _ _ _ | show vskip _ _ _ | show withV _ _) | ((with_reducible show endA _ _ _ _ _ _ _); simp -implicitDefEqProofs only [endA]) | (with_reducible first | refine pick_viewG default (by first | omega | (simp only [LN]; omega)) (by first | omega | (simp only [LN]; omega)) ?_ | refine pick_own default (by first | omega | (simp only [LN]; omega)) ?_ | refine And.intro (by first | decide | omega | assumption | (simp only [LN]; omega)) ?_) | ((with_reducible show pickE _ _ _); first | refine pickE_intro _ ⟨by omega, by rfl⟩ ?_ | refine pickE_intro _ (by rfl) ?_) | fail); try simp -dsimp -implicitDefEqProofs (maxSteps := 1000000) (disch := first | omega | (simp only [LN]; omega)) only [go_sem])
      | fail)
     refine r_loopA (α := Nat × Bool) [0, 2, 3, 4, 6, 46, 47] (fun q b => [(14, .p (.v (.bool q.2))), (48, aI q.1)]) (fun q b => []) (fun q => []) (fun q => q.1 ≤ out.length ∧ (q.2 = true ↔ ∃ m, m < q.1 ∧ out.getD m default = s)) (fun q => out.length - q.1) ((0, false)) ?h0_4 ?hs0_4 ?I_4 ?hI_4 ?round_4
     case hI_4 => intro x; (simp -dsimp -implicitDefEqProofs (maxSteps := 1000000) (disch := first | omega | (simp only [LN]; omega)) only [go_sem]) <;> exact rfl
     case hs0_4 => refine wk_auto ?_; (simp -dsimp -implicitDefEqProofs (maxSteps := 1000000) (disch := first | omega | (simp only [LN]; omega)) only [go_sem]) <;> (try omega)
     case h0_4 => exact ⟨Nat.zero_le _, fun h => Bool.noConfusion h, fun ⟨k, h, _⟩ => absurd h (Nat.not_lt_zero _)⟩
     case round_4 =>
      rintro ⟨j, B⟩ ⟨a1, a2⟩
      dsimp only at a1 a2
      by_cases hj : j < out.length
      ·have k12 := r12 (out.getD j default) s
       have hstep : ∀ B' : Bool, (B' = true ↔ (B = true ∨ out.getD j default = s)) → (B' = true ↔ ∃ m, m < j + 1 ∧ out.getD m default = s) := fun B' hB => by
        rw [hB, a2]
        constructor
        ·rintro (⟨k, h1, h2⟩ | h2)
         ·exact ⟨k, by omega, h2⟩
         ·exact ⟨j, by omega, h2⟩
        ·rintro ⟨k, h1, h2⟩
         rcases Nat.lt_or_ge k j with h4 | h4
         ·exact .inl ⟨k, h4, h2⟩
         ·obtain rfl : k = j := by omega
          exact .inr h2
       cases B with
       | true =>
        have hn := hstep true ⟨fun _ => .inl rfl, fun _ => rfl⟩
        repeat' (first
         | (with_reducible first | refine r_seq ?_ | refine r_block ?_ | refine fork_not ?_ | refine fork_and ?_ | refine fork_or ?_ | refine chk_ok (by kernel_rfl) ?_)
         | ((with_reducible first | refine fork_dec ?_ ?_ | refine fork_eq ?_ ?_ | refine fork_ne ?_ ?_ | refine fork_intro ?_ ?_) <;> intro h <;> try (exfalso; first | omega | exact h rfl | (revert h; decide) | (cases h; done)))
         | ((with_reducible show False); omega)
         | ((first | (with_reducible first | refine r_exit ?_ | refine r_skip ?_ | refine r_cond ?_ | refine r_region ?_ | refine r_ret ?_ | show VX _ _ _ _ _ _ _ | show vstep _ _ _ _ _ | show vskip _ _ _ | show withV _ _) | ((with_reducible show endA _ _ _ _ _ _ _); simp -implicitDefEqProofs only [endA]) | (with_reducible first | refine pick_viewG default (by first | omega | (simp only [LN]; omega)) (by first | omega | (simp only [LN]; omega)) ?_ | refine pick_own default (by first | omega | (simp only [LN]; omega)) ?_ | refine And.intro (by first | decide | omega | assumption | (simp only [LN]; omega)) ?_) | ((with_reducible apply callK_pure); (exact k12)) | ((with_reducible apply callF_lend); (exact k12); rfl) | ((with_reducible apply callF_go); (exact k12)) | ((with_reducible show pickE _ _ _); first | refine pickE_intro _ ⟨by omega, by rfl⟩ ?_ | refine pickE_intro _ (by rfl) ?_) | fail); try simp -dsimp -implicitDefEqProofs (maxSteps := 1000000) (disch := first | omega | (simp only [LN]; omega)) only [go_sem])
         | fail)
        all_goals first | omega | (refine loopQ_next ((j + 1, true)) ?_ ?_ ?_; (exact ⟨by dsimp only; omega, hn⟩); (show _ < _; omega); (simp -dsimp -implicitDefEqProofs (maxSteps := 1000000) (disch := first | omega | (simp only [LN]; omega)) only [go_sem]; try trivial))
       | false =>
        by_cases he : out.getD j default = s
        ·have hn := hstep true ⟨fun _ => .inr he, fun _ => rfl⟩
         rw [decide_eq_true he] at k12
         repeat' (first
          | (with_reducible first | refine r_seq ?_ | refine r_block ?_ | refine fork_not ?_ | refine fork_and ?_ | refine fork_or ?_ | refine chk_ok (by kernel_rfl) ?_)
          | ((with_reducible first | refine fork_dec ?_ ?_ | refine fork_eq ?_ ?_ | refine fork_ne ?_ ?_ | refine fork_intro ?_ ?_) <;> intro h <;> try (exfalso; first | omega | exact h rfl | (revert h; decide) | (cases h; done)))
          | ((with_reducible show False); omega)
          | ((first | (with_reducible first | refine r_exit ?_ | refine r_skip ?_ | refine r_cond ?_ | refine r_region ?_ | refine r_ret ?_ | show VX _ _ _ _ _ _ _ | show vstep _ _ _ _ _ | show vskip _ _ _ | show withV _ _) | ((with_reducible show endA _ _ _ _ _ _ _); simp -implicitDefEqProofs only [endA]) | (with_reducible first | refine pick_viewG default (by first | omega | (simp only [LN]; omega)) (by first | omega | (simp only [LN]; omega)) ?_ | refine pick_own default (by first | omega | (simp only [LN]; omega)) ?_ | refine And.intro (by first | decide | omega | assumption | (simp only [LN]; omega)) ?_) | ((with_reducible apply callK_pure); (exact k12)) | ((with_reducible apply callF_lend); (exact k12); rfl) | ((with_reducible apply callF_go); (exact k12)) | ((with_reducible show pickE _ _ _); first | refine pickE_intro _ ⟨by omega, by rfl⟩ ?_ | refine pickE_intro _ (by rfl) ?_) | fail); try simp -dsimp -implicitDefEqProofs (maxSteps := 1000000) (disch := first | omega | (simp only [LN]; omega)) only [go_sem])
          | fail)
         all_goals first | omega | (refine loopQ_next ((j + 1, true)) ?_ ?_ ?_; (exact ⟨by dsimp only; omega, hn⟩); (show _ < _; omega); (simp -dsimp -implicitDefEqProofs (maxSteps := 1000000) (disch := first | omega | (simp only [LN]; omega)) only [go_sem]; try trivial))
        ·have hn := hstep false ⟨fun h => .inl h, fun h => h.elim id fun h => absurd h he⟩
         rw [decide_eq_false he] at k12
         repeat' (first
          | (with_reducible first | refine r_seq ?_ | refine r_block ?_ | refine fork_not ?_ | refine fork_and ?_ | refine fork_or ?_ | refine chk_ok (by kernel_rfl) ?_)
          | ((with_reducible first | refine fork_dec ?_ ?_ | refine fork_eq ?_ ?_ | refine fork_ne ?_ ?_ | refine fork_intro ?_ ?_) <;> intro h <;> try (exfalso; first | omega | exact h rfl | (revert h; decide) | (cases h; done)))
          | ((with_reducible show False); omega)
          | ((first | (with_reducible first | refine r_exit ?_ | refine r_skip ?_ | refine r_cond ?_ | refine r_region ?_ | refine r_ret ?_ | show VX _ _ _ _ _ _ _ | show vstep _ _ _ _ _ | show vskip _ _ _ | show withV _ _) | ((with_reducible show endA _ _ _ _ _ _ _); simp -implicitDefEqProofs only [endA]) | (with_reducible first | refine pick_viewG default (by first | omega | (simp only [LN]; omega)) (by first | omega | (simp only [LN]; omega)) ?_ | refine pick_own default (by first | omega | (simp only [LN]; omega)) ?_ | refine And.intro (by first | decide | omega | assumption | (simp only [LN]; omega)) ?_) | ((with_reducible apply callK_pure); (exact k12)) | ((with_reducible apply callF_lend); (exact k12); rfl) | ((with_reducible apply callF_go); (exact k12)) | ((with_reducible show pickE _ _ _); first | refine pickE_intro _ ⟨by omega, by rfl⟩ ?_ | refine pickE_intro _ (by rfl) ?_) | fail); try simp -dsimp -implicitDefEqProofs (maxSteps := 1000000) (disch := first | omega | (simp only [LN]; omega)) only [go_sem])
          | fail)
         all_goals first | omega | (refine loopQ_next ((j + 1, false)) ?_ ?_ ?_; (exact ⟨by dsimp only; omega, hn⟩); (show _ < _; omega); (simp -dsimp -implicitDefEqProofs (maxSteps := 1000000) (disch := first | omega | (simp only [LN]; omega)) only [go_sem]; try trivial))
      ·obtain rfl : j = out.length := by omega
       rw [← mem_idx] at a2
       cases B with
       | true =>
        rw [if_pos (a2.1 rfl)] at hst
        repeat' (first
         | (with_reducible first | refine r_seq ?_ | refine r_block ?_ | refine fork_not ?_ | refine fork_and ?_ | refine fork_or ?_ | refine chk_ok (by kernel_rfl) ?_)
         | ((with_reducible first | refine fork_dec ?_ ?_ | refine fork_eq ?_ ?_ | refine fork_ne ?_ ?_ | refine fork_intro ?_ ?_) <;> intro h <;> try (exfalso; first | omega | exact h rfl | (revert h; decide) | (cases h; done)))
         | ((with_reducible show False); omega)
         | ((first | (with_reducible first | refine r_exit ?_ | refine r_skip ?_ | refine r_cond ?_ | refine r_region ?_ | refine r_ret ?_ | show VX _ _ _ _ _ _ _ | show vstep _ _ _ _ _ | show vskip _ _ _ | show withV _ _) | ((with_reducible show endA _ _ _ _ _ _ _); simp -implicitDefEqProofs only [endA]) | (with_reducible first | refine pick_viewG default (by first | omega | (simp only [LN]; omega)) (by first | omega | (simp only [LN]; omega)) ?_ | refine pick_own default (by first | omega | (simp only [LN]; omega)) ?_ | refine And.intro (by first | decide | omega | assumption | (simp only [LN]; omega)) ?_) | ((with_reducible show pickE _ _ _); first | refine pickE_intro _ ⟨by omega, by rfl⟩ ?_ | refine pickE_intro _ (by rfl) ?_) | fail); try simp -dsimp -implicitDefEqProofs (maxSteps := 1000000) (disch := first | omega | (simp only [LN]; omega)) only [go_sem])
         | fail)
        all_goals first | omega | (refine cut_next (0) ?_ ?_; (omega); (simp -dsimp -implicitDefEqProofs (maxSteps := 1000000) (disch := first | omega | (simp only [LN, hst]; omega)) only [go_sem, hst]; try trivial))
       | false =>
        rw [if_neg (fun h => absurd (a2.2 h) Bool.false_ne_true)] at hst
        repeat' (first
         | (with_reducible first | refine r_seq ?_ | refine r_block ?_ | refine fork_not ?_ | refine fork_and ?_ | refine fork_or ?_ | refine chk_ok (by kernel_rfl) ?_)
         | ((with_reducible first | refine fork_dec ?_ ?_ | refine fork_eq ?_ ?_ | refine fork_ne ?_ ?_ | refine fork_intro ?_ ?_) <;> intro h <;> try (exfalso; first | omega | exact h rfl | (revert h; decide) | (cases h; done)))
         | ((with_reducible show False); omega)
         | ((first | (with_reducible first | refine r_exit ?_ | refine r_skip ?_ | refine r_cond ?_ | refine r_region ?_ | refine r_ret ?_ | show VX _ _ _ _ _ _ _ | show vstep _ _ _ _ _ | show vskip _ _ _ | show withV _ _) | ((with_reducible show endA _ _ _ _ _ _ _); simp -implicitDefEqProofs only [endA]) | (with_reducible first | refine pick_viewG default (by first | omega | (simp only [LN]; omega)) (by first | omega | (simp only [LN]; omega)) ?_ | refine pick_own default (by first | omega | (simp only [LN]; omega)) ?_ | refine And.intro (by first | decide | omega | assumption | (simp only [LN]; omega)) ?_) | ((with_reducible show pickE _ _ _); first | refine pickE_intro _ ⟨by omega, by rfl⟩ ?_ | refine pickE_intro _ (by rfl) ?_) | fail); try simp -dsimp -implicitDefEqProofs (maxSteps := 1000000) (disch := first | omega | (simp only [LN]; omega)) only [go_sem])
         | fail)
        all_goals first | omega | (refine cut_next (0) ?_ ?_; (omega); (simp -dsimp -implicitDefEqProofs (maxSteps := 1000000) (disch := first | omega | (simp only [LN, hst, List.map_append]; omega)) only [go_sem, hst, List.map_append]; try trivial))
    ·repeat' (first
      | (with_reducible first | refine r_seq ?_ | refine r_block ?_ | refine fork_not ?_ | refine fork_and ?_ | refine fork_or ?_ | refine chk_ok (by kernel_rfl) ?_)
      | ((with_reducible first | refine fork_dec ?_ ?_ | refine fork_eq ?_ ?_ | refine fork_ne ?_ ?_ | refine fork_intro ?_ ?_) <;> intro h <;> try (exfalso; first | omega | exact h rfl | (revert h; decide) | (cases h; done)))
      | ((with_reducible show False); omega)
      | ((first | (with_reducible first | refine r_exit ?_ | refine r_skip ?_ | refine r_cond ?_ | refine r_region ?_ | refine r_ret ?_ | show VX _ _ _ _ _ _ _ | show vstep _ _ _ _ _ | show vskip _ _ _ | show withV _ _) | ((with_reducible show endA _ _ _ _ _ _ _); simp -implicitDefEqProofs only [endA]) | (with_reducible first | refine pick_viewG default (by first | omega | (simp only [LN]; omega)) (by first | omega | (simp only [LN]; omega)) ?_ | refine pick_own default (by first | omega | (simp only [LN]; omega)) ?_ | refine And.intro (by first | decide | omega | assumption | (simp only [LN]; omega)) ?_) | ((with_reducible show pickE _ _ _); first | refine pickE_intro _ ⟨by omega, by rfl⟩ ?_ | refine pickE_intro _ (by rfl) ?_) | fail); try simp -dsimp -implicitDefEqProofs (maxSteps := 1000000) (disch := first | omega | (simp only [LN]; omega)) only [go_sem])
      | fail)
     all_goals first | omega | (refine cut_next (0) ?_ ?_; (omega); (simp -dsimp -implicitDefEqProofs (maxSteps := 1000000) (disch := first | omega | (simp only [LN, hst]; omega)) only [go_sem, hst]; try trivial))
   case rest_3 =>
    rintro _ -
    repeat' (first
     | (with_reducible first | refine r_seq ?_ | refine r_block ?_ | refine fork_not ?_ | refine fork_and ?_ | refine fork_or ?_ | refine chk_ok (by kernel_rfl) ?_)
     | ((with_reducible first | refine fork_dec ?_ ?_ | refine fork_eq ?_ ?_ | refine fork_ne ?_ ?_ | refine fork_intro ?_ ?_) <;> intro h <;> try (exfalso; first | omega | exact h rfl | (revert h; decide) | (cases h; done)))
     | ((with_reducible show False); omega)
     | ((first | (with_reducible first | refine r_exit ?_ | refine r_skip ?_ | refine r_cond ?_ | refine r_region ?_ | refine r_ret ?_ | show VX _ _ _ _ _ _ _ | show vstep _ _ _ _ _ | show vskip _ _ _ | show withV _ _) | ((with_reducible show endA _ _ _ _ _ _ _); simp -implicitDefEqProofs only [endA]) | (with_reducible first | refine pick_viewG default (by first | omega | (simp only [LN]; omega)) (by first | omega | (simp only [LN]; omega)) ?_ | refine pick_own default (by first | omega | (simp only [LN]; omega)) ?_ | refine And.intro (by first | decide | omega | assumption | (simp only [LN]; omega)) ?_) | ((with_reducible show pickE _ _ _); first | refine pickE_intro _ ⟨by omega, by rfl⟩ ?_ | refine pickE_intro _ (by rfl) ?_) | fail); try simp -dsimp -implicitDefEqProofs (maxSteps := 1000000) (disch := first | omega | (simp only [LN]; omega)) only [go_sem])
     | fail)
    refine r_loopA (α := Nat × List LP) [0, 2, 3, 6, 68, 69] (fun q b => [(4, .p (.view 1 (q.2.map eL))), (70, aI q.1)]) (fun q b => []) (fun q => []) (fun q => q.1 ≤ cl.length ∧ finGo k cl (finM k cl f) s u (cl.length - q.1) q.1 q.2 = R ∧ q.2.length ≤ A.length + q.1 * cntF f) (fun q => cl.length - q.1) ((0, A)) ?h0_5 ?hs0_5 ?I_5 ?hI_5 ?round_5
    case hI_5 => intro x; (simp -dsimp -implicitDefEqProofs (maxSteps := 1000000) (disch := first | omega | (simp only [LN]; omega)) only [go_sem]) <;> exact rfl
    case hs0_5 => refine wk_auto ?_; (simp -dsimp -implicitDefEqProofs (maxSteps := 1000000) (disch := first | omega | (simp only [LN]; omega)) only [go_sem]) <;> (try omega)
    case h0_5 => exact ⟨Nat.zero_le _, hR, by dsimp only; omega⟩
    case round_5 =>
     rintro ⟨i, o⟩ ⟨q1, q2, q3⟩
     dsimp only at q1 q2 q3
     by_cases hi : i < cl.length
     ·obtain ⟨w, hw1, hw2⟩ : ∃ w, cl.length - i = w + 1 ∧ cl.length - (i + 1) = w := ⟨cl.length - (i + 1), by omega, rfl⟩
      rw [hw1] at q2
      have hmul : (i + 1) * cntF f = i * cntF f + cntF f := Nat.succ_mul _ _
      have hmul2 : (i + 1) * cntF f ≤ 10 * cntF f := Nat.mul_le_mul_right _ (by omega)
      repeat' (first
       | (with_reducible first | refine r_seq ?_ | refine r_block ?_ | refine fork_not ?_ | refine fork_and ?_ | refine fork_or ?_ | refine chk_ok (by kernel_rfl) ?_)
       | ((with_reducible first | refine fork_dec ?_ ?_ | refine fork_eq ?_ ?_ | refine fork_ne ?_ ?_ | refine fork_intro ?_ ?_) <;> intro h <;> try (exfalso; first | omega | exact h rfl | (revert h; decide) | (cases h; done)))
       | ((with_reducible show False); omega)
       | ((first | (with_reducible first | refine r_exit ?_ | refine r_skip ?_ | refine r_cond ?_ | refine r_region ?_ | refine r_ret ?_ | show VX _ _ _ _ _ _ _ | show vstep _ _ _ _ _ | show vskip _ _ _ | show withV _ _) | ((with_reducible show endA _ _ _ _ _ _ _); simp -implicitDefEqProofs only [endA]) | (with_reducible first | refine pick_viewG default (by first | omega | (simp only [LN]; omega)) (by first | omega | (simp only [LN]; omega)) ?_ | refine pick_own default (by first | omega | (simp only [LN]; omega)) ?_ | refine And.intro (by first | decide | omega | assumption | (simp only [LN]; omega)) ?_) | ((with_reducible show pickE _ _ _); first | refine pickE_intro _ ⟨by omega, by rfl⟩ ?_ | refine pickE_intro _ (by rfl) ?_) | fail); try simp -dsimp -implicitDefEqProofs (maxSteps := 1000000) (disch := first | omega | (simp only [LN]; omega)) only [go_sem])
       | fail)
      refine r_loopA (α := Nat × Bool) [0, 2, 3, 4, 6, 17, 18, 68, 69, 70, 77] (fun a b => [(19, .p (.v (.bool a.2))), (78, aI a.1)]) (fun a b => []) (fun a => []) (fun a => a.1 ≤ cl.length ∧ (a.2 = true ↔ ∃ k, k < a.1 ∧ u.getD k false = true ∧ Hi.befM cl (i : Int) (k : Int))) (fun a => cl.length - a.1) ((0, false)) ?h0_6 ?hs0_6 ?I_6 ?hI_6 ?round_6
      case hI_6 => intro x; (simp -dsimp -implicitDefEqProofs (maxSteps := 1000000) (disch := first | omega | (simp only [LN]; omega)) only [go_sem]) <;> exact rfl
      case hs0_6 => refine wk_auto ?_; (simp -dsimp -implicitDefEqProofs (maxSteps := 1000000) (disch := first | omega | (simp only [LN]; omega)) only [go_sem]) <;> (try omega)
      case h0_6 => exact ⟨Nat.zero_le _, fun h => Bool.noConfusion h, fun ⟨k, h, _⟩ => absurd h (Nat.not_lt_zero _)⟩
      case round_6 =>
       rintro ⟨a, B⟩ ⟨a1, a2⟩
       dsimp only at a1 a2
       by_cases ha : a < cl.length
       ·have k43 := r43 cl n e i a
        have hud : u.getD a default = u.getD a false := rfl
        have hstep : ∀ B' : Bool, (B' = true ↔ (B = true ∨ (u.getD a false = true ∧ Hi.befM cl (i : Int) (a : Int)))) → (B' = true ↔ ∃ k, k < a + 1 ∧ u.getD k false = true ∧ Hi.befM cl (i : Int) (k : Int)) := fun B' hB => by
         rw [hB, a2]
         constructor
         ·rintro (⟨k, h1, h2⟩ | h2)
          ·exact ⟨k, by omega, h2⟩
          ·exact ⟨a, by omega, h2⟩
         ·rintro ⟨k, h1, h2⟩
          rcases Nat.lt_or_ge k a with h4 | h4
          ·exact .inl ⟨k, h4, h2⟩
          ·obtain rfl : k = a := by omega
           exact .inr h2
        cases B with
        | true =>
         have hn := hstep true ⟨fun _ => .inl rfl, fun _ => rfl⟩
         repeat' (first
          | (with_reducible first | refine r_seq ?_ | refine r_block ?_ | refine fork_not ?_ | refine fork_and ?_ | refine fork_or ?_ | refine chk_ok (by kernel_rfl) ?_)
          | ((with_reducible first | refine fork_dec ?_ ?_ | refine fork_eq ?_ ?_ | refine fork_ne ?_ ?_ | refine fork_intro ?_ ?_) <;> intro h <;> try (exfalso; first | omega | exact h rfl | (revert h; decide) | (cases h; done)))
          | ((with_reducible show False); omega)
          | ((first | (with_reducible first | refine r_exit ?_ | refine r_skip ?_ | refine r_cond ?_ | refine r_region ?_ | refine r_ret ?_ | show VX _ _ _ _ _ _ _ | show vstep _ _ _ _ _ | show vskip _ _ _ | show withV _ _) | ((with_reducible show endA _ _ _ _ _ _ _); simp -implicitDefEqProofs only [endA]) | (with_reducible first | refine pick_viewG default (by first | omega | (simp only [LN, hul]; omega)) (by first | omega | (simp only [LN, hul]; omega)) ?_ | refine pick_own default (by first | omega | (simp only [LN, hul]; omega)) ?_ | refine And.intro (by first | decide | omega | assumption | (simp only [LN, hul]; omega)) ?_) | ((with_reducible show pickE _ _ _); first | refine pickE_intro _ ⟨by omega, by rfl⟩ ?_ | refine pickE_intro _ (by rfl) ?_) | fail); try simp -dsimp -implicitDefEqProofs (maxSteps := 1000000) (disch := first | omega | (simp only [LN, hul]; omega)) only [go_sem, hul])
          | fail)
         all_goals first | omega | (refine loopQ_next ((a + 1, true)) ?_ ?_ ?_; (exact ⟨by dsimp only; omega, hn⟩); (show _ < _; omega); (simp -dsimp -implicitDefEqProofs (maxSteps := 1000000) (disch := first | omega | (simp only [LN]; omega)) only [go_sem]; try trivial))
        | false =>
         cases hua : u.getD a false with
         | false =>
          have hn := hstep false ⟨fun h => .inl h, fun h => h.elim id fun h => absurd (hua.symm.trans h.1) Bool.false_ne_true⟩
          rw [hua] at hud
          repeat' (first
           | (with_reducible first | refine r_seq ?_ | refine r_block ?_ | refine fork_not ?_ | refine fork_and ?_ | refine fork_or ?_ | refine chk_ok (by kernel_rfl) ?_)
           | ((with_reducible first | refine fork_dec ?_ ?_ | refine fork_eq ?_ ?_ | refine fork_ne ?_ ?_ | refine fork_intro ?_ ?_) <;> intro h <;> try (exfalso; first | omega | exact h rfl | (revert h; decide) | (cases h; done)))
           | ((with_reducible show False); omega)
           | ((first | (with_reducible first | refine r_exit ?_ | refine r_skip ?_ | refine r_cond ?_ | refine r_region ?_ | refine r_ret ?_ | show VX _ _ _ _ _ _ _ | show vstep _ _ _ _ _ | show vskip _ _ _ | show withV _ _) | ((with_reducible show endA _ _ _ _ _ _ _); simp -implicitDefEqProofs only [endA]) | (with_reducible first | refine pick_viewG default (by first | omega | (simp only [LN, hud, hul]; omega)) (by first | omega | (simp only [LN, hud, hul]; omega)) ?_ | refine pick_own default (by first | omega | (simp only [LN, hud, hul]; omega)) ?_ | refine And.intro (by first | decide | omega | assumption | (simp only [LN, hud, hul]; omega)) ?_) | ((with_reducible show pickE _ _ _); first | refine pickE_intro _ ⟨by omega, by rfl⟩ ?_ | refine pickE_intro _ (by rfl) ?_) | fail); try simp -dsimp -implicitDefEqProofs (maxSteps := 1000000) (disch := first | omega | (simp only [LN, hud, hul]; omega)) only [go_sem, hud, hul])
           | fail)
          all_goals first | omega | (refine loopQ_next ((a + 1, false)) ?_ ?_ ?_; (exact ⟨by dsimp only; omega, hn⟩); (show _ < _; omega); (simp -dsimp -implicitDefEqProofs (maxSteps := 1000000) (disch := first | omega | (simp only [LN]; omega)) only [go_sem]; try trivial))
         | true =>
          rw [hua] at hud
          by_cases hb : Hi.befM cl (i : Int) (a : Int)
          ·have hn := hstep true ⟨fun _ => .inr ⟨hua, hb⟩, fun _ => rfl⟩
           rw [decide_eq_true hb] at k43
           repeat' (first
            | (with_reducible first | refine r_seq ?_ | refine r_block ?_ | refine fork_not ?_ | refine fork_and ?_ | refine fork_or ?_ | refine chk_ok (by kernel_rfl) ?_)
            | ((with_reducible first | refine fork_dec ?_ ?_ | refine fork_eq ?_ ?_ | refine fork_ne ?_ ?_ | refine fork_intro ?_ ?_) <;> intro h <;> try (exfalso; first | omega | exact h rfl | (revert h; decide) | (cases h; done)))
            | ((with_reducible show False); omega)
            | ((first | (with_reducible first | refine r_exit ?_ | refine r_skip ?_ | refine r_cond ?_ | refine r_region ?_ | refine r_ret ?_ | show VX _ _ _ _ _ _ _ | show vstep _ _ _ _ _ | show vskip _ _ _ | show withV _ _) | ((with_reducible show endA _ _ _ _ _ _ _); simp -implicitDefEqProofs only [endA]) | (with_reducible first | refine pick_viewG default (by first | omega | (simp only [LN, hud, hul]; omega)) (by first | omega | (simp only [LN, hud, hul]; omega)) ?_ | refine pick_own default (by first | omega | (simp only [LN, hud, hul]; omega)) ?_ | refine And.intro (by first | decide | omega | assumption | (simp only [LN, hud, hul]; omega)) ?_) | ((with_reducible apply callK_pure); (exact k43)) | ((with_reducible apply callF_lend); (exact k43); rfl) | ((with_reducible apply callF_go); (exact k43)) | ((with_reducible show pickE _ _ _); first | refine pickE_intro _ ⟨by omega, by rfl⟩ ?_ | refine pickE_intro _ (by rfl) ?_) | fail); try simp -dsimp -implicitDefEqProofs (maxSteps := 1000000) (disch := first | omega | (simp only [LN, hud, hul]; omega)) only [go_sem, hud, hul])
            | fail)
           all_goals first | omega | (refine loopQ_next ((a + 1, true)) ?_ ?_ ?_; (exact ⟨by dsimp only; omega, hn⟩); (show _ < _; omega); (simp -dsimp -implicitDefEqProofs (maxSteps := 1000000) (disch := first | omega | (simp only [LN]; omega)) only [go_sem]; try trivial))
          ·have hn := hstep false ⟨fun h => .inl h, fun h => h.elim id fun h => absurd h.2 hb⟩
           rw [decide_eq_false hb] at k43
           repeat' (first
            | (with_reducible first | refine r_seq ?_ | refine r_block ?_ | refine fork_not ?_ | refine fork_and ?_ | refine fork_or ?_ | refine chk_ok (by kernel_rfl) ?_)
            | ((with_reducible first | refine fork_dec ?_ ?_ | refine fork_eq ?_ ?_ | refine fork_ne ?_ ?_ | refine fork_intro ?_ ?_) <;> intro h <;> try (exfalso; first | omega | exact h rfl | (revert h; decide) | (cases h; done)))
            | ((with_reducible show False); omega)
            | ((first | (with_reducible first | refine r_exit ?_ | refine r_skip ?_ | refine r_cond ?_ | refine r_region ?_ | refine r_ret ?_ | show VX _ _ _ _ _ _ _ | show vstep _ _ _ _ _ | show vskip _ _ _ | show withV _ _) | ((with_reducible show endA _ _ _ _ _ _ _); simp -implicitDefEqProofs only [endA]) | (with_reducible first | refine pick_viewG default (by first | omega | (simp only [LN, hud, hul]; omega)) (by first | omega | (simp only [LN, hud, hul]; omega)) ?_ | refine pick_own default (by first | omega | (simp only [LN, hud, hul]; omega)) ?_ | refine And.intro (by first | decide | omega | assumption | (simp only [LN, hud, hul]; omega)) ?_) | ((with_reducible apply callK_pure); (exact k43)) | ((with_reducible apply callF_lend); (exact k43); rfl) | ((with_reducible apply callF_go); (exact k43)) | ((with_reducible show pickE _ _ _); first | refine pickE_intro _ ⟨by omega, by rfl⟩ ?_ | refine pickE_intro _ (by rfl) ?_) | fail); try simp -dsimp -implicitDefEqProofs (maxSteps := 1000000) (disch := first | omega | (simp only [LN, hud, hul]; omega)) only [go_sem, hud, hul])
            | fail)
           all_goals first | omega | (refine loopQ_next ((a + 1, false)) ?_ ?_ ?_; (exact ⟨by dsimp only; omega, hn⟩); (show _ < _; omega); (simp -dsimp -implicitDefEqProofs (maxSteps := 1000000) (disch := first | omega | (simp only [LN]; omega)) only [go_sem]; try trivial))
       ·obtain rfl : a = cl.length := by omega
        have hlate : B = true ↔ lateU cl u i := a2
        cases B with
        | true =>
         have hno : ¬ canU k cl s u i := fun h => h.1 (hlate.1 rfl)
         rw [finGo_no hno] at q2
         repeat' (first
          | (with_reducible first | refine r_seq ?_ | refine r_block ?_ | refine fork_not ?_ | refine fork_and ?_ | refine fork_or ?_ | refine chk_ok (by kernel_rfl) ?_)
          | ((with_reducible first | refine fork_dec ?_ ?_ | refine fork_eq ?_ ?_ | refine fork_ne ?_ ?_ | refine fork_intro ?_ ?_) <;> intro h <;> try (exfalso; first | omega | exact h rfl | (revert h; decide) | (cases h; done)))
          | ((with_reducible show False); omega)
          | ((first | (with_reducible first | refine r_exit ?_ | refine r_skip ?_ | refine r_cond ?_ | refine r_region ?_ | refine r_ret ?_ | show VX _ _ _ _ _ _ _ | show vstep _ _ _ _ _ | show vskip _ _ _ | show withV _ _) | ((with_reducible show endA _ _ _ _ _ _ _); simp -implicitDefEqProofs only [endA]) | (with_reducible first | refine pick_viewG default (by first | omega | (simp only [LN, hul]; omega)) (by first | omega | (simp only [LN, hul]; omega)) ?_ | refine pick_own default (by first | omega | (simp only [LN, hul]; omega)) ?_ | refine And.intro (by first | decide | omega | assumption | (simp only [LN, hul]; omega)) ?_) | ((with_reducible show pickE _ _ _); first | refine pickE_intro _ ⟨by omega, by rfl⟩ ?_ | refine pickE_intro _ (by rfl) ?_) | fail); try simp -dsimp -implicitDefEqProofs (maxSteps := 1000000) (disch := first | omega | (simp only [LN, hul]; omega)) only [go_sem, hul])
          | fail)
         all_goals first | omega | (refine loopQ_next ((i + 1, o)) ?_ ?_ ?_; (exact ⟨by dsimp only; omega, by dsimp only; rw [hw2]; exact q2, by dsimp only; omega⟩); (show _ < _; omega); (simp -dsimp -implicitDefEqProofs (maxSteps := 1000000) (disch := first | omega | (simp only [LN]; omega)) only [go_sem]; try trivial))
        | false =>
         have hnl : ¬ lateU cl u i := fun h => absurd (hlate.2 h) Bool.false_ne_true
         by_cases hm : mayU cl u i
         ·have k50 := r50 cl n e u i hi hul true ⟨fun _ => hm, fun _ => rfl⟩
          have hSi := hS i hi
          have k44 := r44 k s (opC (cl.getD i default)) (by omega)
          have hok := ok_apply hs (ho i hi).2
          have hkk := apply_k S (opC (cl.getD i default))
          obtain ⟨T, hT⟩ : ∃ T, Sp.applyM S (opC (cl.getD i default)) = T := ⟨_, rfl⟩
          rw [hT] at hSi hok hkk
          rw [hSi] at k44
          have hfo := free_or m i (by rw [hu.2 i hi]; exact hm.1) cl.length hi
          by_cases hr : resU k cl s i
          ·have hyes : canU k cl s u i := ⟨hnl, hm, hr⟩
           rw [finGo_yes hyes, hSi] at q2
           unfold resU at hr
           rw [hSi] at hr
           unfold eqR resC at hr
           dsimp only at hr k44 q2
           have kih := ih T.1 (b + 1) (m ||| 2 ^ i) (u.set i true) o hok (by rw [hkk, hsk]) (by omega) (sameU_set hu hi) (by omega) (by omega)
           have hlo := finM_len (k := k) (cl := cl) hl f (Sp.contM T.1) (u.set i true) o
           rw [List.map_set] at kih
           obtain ⟨W, hW⟩ : ∃ W, finM k cl f (Sp.contM T.1) (u.set i true) o = W := ⟨_, rfl⟩
           rw [hW] at kih q2 hlo
           unfold opC at k44
           have hl2 : ∀ y, ((u.map eB).set i y).length = cl.length := fun y => by rw [List.length_set, List.length_map, hul]
           have ht2 : ∀ y, ((u.map eB).set i y).take cl.length = (u.map eB).set i y := fun y => List.take_of_length_le (by rw [hl2]; exact Nat.le_refl _)
           repeat' (first
            | (with_reducible first | refine r_seq ?_ | refine r_block ?_ | refine fork_not ?_ | refine fork_and ?_ | refine fork_or ?_ | refine chk_ok (by kernel_rfl) ?_)
            | ((with_reducible first | refine fork_dec ?_ ?_ | refine fork_eq ?_ ?_ | refine fork_ne ?_ ?_ | refine fork_intro ?_ ?_) <;> intro h <;> try (exfalso; first | omega | exact h rfl | (revert h; decide) | (cases h; done)))
            | ((with_reducible show False); omega)
            | ((first | (with_reducible first | refine r_exit ?_ | refine r_skip ?_ | refine r_cond ?_ | refine r_region ?_ | refine r_ret ?_ | show VX _ _ _ _ _ _ _ | show vstep _ _ _ _ _ | show vskip _ _ _ | show withV _ _) | ((with_reducible show endA _ _ _ _ _ _ _); simp -implicitDefEqProofs only [endA]) | (with_reducible first | refine pick_viewG default (by first | omega | (simp only [LN, hul, hl2, ht2, Nat.min_self]; omega)) (by first | omega | (simp only [LN, hul, hl2, ht2, Nat.min_self]; omega)) ?_ | refine pick_own default (by first | omega | (simp only [LN, hul, hl2, ht2, Nat.min_self]; omega)) ?_ | refine And.intro (by first | decide | omega | assumption | (simp only [LN, hul, hl2, ht2, Nat.min_self]; omega)) ?_) | ((with_reducible apply callK_pure); (first | exact k50 | exact k44 | exact kih | fail)) | ((with_reducible apply callF_lend); (first | exact k50 | exact k44 | exact kih | fail); rfl) | ((with_reducible apply callF_go); (first | exact k50 | exact k44 | exact kih | fail)) | ((with_reducible show pickE _ _ _); first | refine pickE_intro _ ⟨by omega, by rfl⟩ ?_ | refine pickE_intro _ (by rfl) ?_) | fail); try simp -dsimp -implicitDefEqProofs (maxSteps := 1000000) (disch := first | omega | (simp only [LN, hul, hl2, ht2, Nat.min_self]; omega)) only [go_sem, hul, hl2, ht2, Nat.min_self])
            | fail)
           all_goals first
            | omega
            | (exfalso; have h9 := hr (by assumption); first | exact absurd h9.1 (by assumption) | exact absurd h9.2.1 (by assumption) | exact absurd h9.2.2 (by assumption))
            | (refine loopQ_next ((i + 1, W)) ?_ ?_ ?_; (exact ⟨by dsimp only; omega, by dsimp only; rw [hw2]; exact q2, by dsimp only; omega⟩); (show _ < _; omega); (simp -dsimp -implicitDefEqProofs (maxSteps := 1000000) (disch := first | omega | (simp only [LN]; omega)) only [go_sem]; try trivial))
          ·have hno : ¬ canU k cl s u i := fun h => hr h.2.2
           rw [finGo_no hno] at q2
           unfold resU at hr
           rw [hSi] at hr
           unfold eqR resC at hr
           dsimp only at hr k44
           unfold opC at k44
           repeat' (first
            | (with_reducible first | refine r_seq ?_ | refine r_block ?_ | refine fork_not ?_ | refine fork_and ?_ | refine fork_or ?_ | refine chk_ok (by kernel_rfl) ?_)
            | ((with_reducible first | refine fork_dec ?_ ?_ | refine fork_eq ?_ ?_ | refine fork_ne ?_ ?_ | refine fork_intro ?_ ?_) <;> intro h <;> try (exfalso; first | omega | exact h rfl | (revert h; decide) | (cases h; done)))
            | ((with_reducible show False); omega)
            | ((first | (with_reducible first | refine r_exit ?_ | refine r_skip ?_ | refine r_cond ?_ | refine r_region ?_ | refine r_ret ?_ | show VX _ _ _ _ _ _ _ | show vstep _ _ _ _ _ | show vskip _ _ _ | show withV _ _) | ((with_reducible show endA _ _ _ _ _ _ _); simp -implicitDefEqProofs only [endA]) | (with_reducible first | refine pick_viewG default (by first | omega | (simp only [LN, hul]; omega)) (by first | omega | (simp only [LN, hul]; omega)) ?_ | refine pick_own default (by first | omega | (simp only [LN, hul]; omega)) ?_ | refine And.intro (by first | decide | omega | assumption | (simp only [LN, hul]; omega)) ?_) | ((with_reducible apply callK_pure); (first | exact k50 | exact k44 | fail)) | ((with_reducible apply callF_lend); (first | exact k50 | exact k44 | fail); rfl) | ((with_reducible apply callF_go); (first | exact k50 | exact k44 | fail)) | ((with_reducible show pickE _ _ _); first | refine pickE_intro _ ⟨by omega, by rfl⟩ ?_ | refine pickE_intro _ (by rfl) ?_) | fail); try simp -dsimp -implicitDefEqProofs (maxSteps := 1000000) (disch := first | omega | (simp only [LN, hul]; omega)) only [go_sem, hul])
            | fail)
           all_goals first
            | omega
            | (exfalso; exact hr fun _ => ⟨by assumption, by assumption, by assumption⟩)
            | (exfalso; exact hr fun _ => by omega)
            | (refine loopQ_next ((i + 1, o)) ?_ ?_ ?_; (exact ⟨by dsimp only; omega, by dsimp only; rw [hw2]; exact q2, by dsimp only; omega⟩); (show _ < _; omega); (simp -dsimp -implicitDefEqProofs (maxSteps := 1000000) (disch := first | omega | (simp only [LN]; omega)) only [go_sem]; try trivial))
         ·have k50 := r50 cl n e u i hi hul false ⟨fun h => Bool.noConfusion h, fun h => absurd h hm⟩
          have hno : ¬ canU k cl s u i := fun h => hm h.2.1
          rw [finGo_no hno] at q2
          repeat' (first
           | (with_reducible first | refine r_seq ?_ | refine r_block ?_ | refine fork_not ?_ | refine fork_and ?_ | refine fork_or ?_ | refine chk_ok (by kernel_rfl) ?_)
           | ((with_reducible first | refine fork_dec ?_ ?_ | refine fork_eq ?_ ?_ | refine fork_ne ?_ ?_ | refine fork_intro ?_ ?_) <;> intro h <;> try (exfalso; first | omega | exact h rfl | (revert h; decide) | (cases h; done)))
           | ((with_reducible show False); omega)
           | ((first | (with_reducible first | refine r_exit ?_ | refine r_skip ?_ | refine r_cond ?_ | refine r_region ?_ | refine r_ret ?_ | show VX _ _ _ _ _ _ _ | show vstep _ _ _ _ _ | show vskip _ _ _ | show withV _ _) | ((with_reducible show endA _ _ _ _ _ _ _); simp -implicitDefEqProofs only [endA]) | (with_reducible first | refine pick_viewG default (by first | omega | (simp only [LN, hul]; omega)) (by first | omega | (simp only [LN, hul]; omega)) ?_ | refine pick_own default (by first | omega | (simp only [LN, hul]; omega)) ?_ | refine And.intro (by first | decide | omega | assumption | (simp only [LN, hul]; omega)) ?_) | ((with_reducible apply callK_pure); (exact k50)) | ((with_reducible apply callF_lend); (exact k50); rfl) | ((with_reducible apply callF_go); (exact k50)) | ((with_reducible show pickE _ _ _); first | refine pickE_intro _ ⟨by omega, by rfl⟩ ?_ | refine pickE_intro _ (by rfl) ?_) | fail); try simp -dsimp -implicitDefEqProofs (maxSteps := 1000000) (disch := first | omega | (simp only [LN, hul]; omega)) only [go_sem, hul])
           | fail)
          all_goals first | omega | (refine loopQ_next ((i + 1, o)) ?_ ?_ ?_; (exact ⟨by dsimp only; omega, by dsimp only; rw [hw2]; exact q2, by dsimp only; omega⟩); (show _ < _; omega); (simp -dsimp -implicitDefEqProofs (maxSteps := 1000000) (disch := first | omega | (simp only [LN]; omega)) only [go_sem]; try trivial))
     ·rw [show cl.length - i = 0 by omega, finGo_0] at q2
      subst q2
      repeat' (first
       | (with_reducible first | refine r_seq ?_ | refine r_block ?_ | refine fork_not ?_ | refine fork_and ?_ | refine fork_or ?_ | refine chk_ok (by kernel_rfl) ?_)
       | ((with_reducible first | refine fork_dec ?_ ?_ | refine fork_eq ?_ ?_ | refine fork_ne ?_ ?_ | refine fork_intro ?_ ?_) <;> intro h <;> try (exfalso; first | omega | exact h rfl | (revert h; decide) | (cases h; done)))
       | ((with_reducible show False); omega)
       | ((first | (with_reducible first | refine r_exit ?_ | refine r_skip ?_ | refine r_cond ?_ | refine r_region ?_ | refine r_ret ?_ | show VX _ _ _ _ _ _ _ | show vstep _ _ _ _ _ | show vskip _ _ _ | show withV _ _) | ((with_reducible show endA _ _ _ _ _ _ _); simp -implicitDefEqProofs only [endA]) | (with_reducible first | refine pick_viewG default (by first | omega | (simp only [LN]; omega)) (by first | omega | (simp only [LN]; omega)) ?_ | refine pick_own default (by first | omega | (simp only [LN]; omega)) ?_ | refine And.intro (by first | decide | omega | assumption | (simp only [LN]; omega)) ?_) | ((with_reducible show pickE _ _ _); first | refine pickE_intro _ ⟨by omega, by rfl⟩ ?_ | refine pickE_intro _ (by rfl) ?_) | fail); try simp -dsimp -implicitDefEqProofs (maxSteps := 1000000) (disch := first | omega | (simp only [LN]; omega)) only [go_sem])
       | fail)
      all_goals first | rfl | omega
theorem r28 (k n e : Int) (cl : List Hi.C) (hk : Sp.newK k = k) (ho : OpsOk k cl) (hl : cl.length ≤ 10) : ∀ f, RunF k n e cl f
 | 0 => fun _ _ _ _ _ _ _ _ _ h _ => absurd h (Nat.not_lt_zero _)
 | f + 1 => fun S b m u out hs hsk hb hu hfr hout => by
  have := r28s k n e cl hk ho hl f (r28 k n e cl hk ho hl f) S b m u out hs hsk hb hu hfr hout _ rfl
  unfold finM; exact this
end Go.Proofs.YtpcjeaaplidmaaaGreatDoor