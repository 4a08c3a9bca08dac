/- Contracts of functions of this program, and the plain facts that they rest on. No conditions. -/
import Derived.Test.YtckhjklcfagkoaaGreatDoorScNQ
set_option linter.unusedSimpArgs false
set_option linter.unusedVariables false
namespace Go.Proofs.YtckhjklcfagkoaaGreatDoor
open Go Go.Ab
attribute [local irreducible] callK callF loopQ vstep vskip pickE hideP
open Go.RowKit
set_option maxRecDepth 100000
attribute [local go_sem] eE rE
def plE (x : Ev) : Ev := { x with k := x.k % 256, ch := if 600 < x.ch.length then x.ch.take 600 else x.ch }
theorem plE_rng {x : Ev} (R : Rng x) : Rng (plE x) := ⟨R.th, R.o, R.v, R.w, R.ln, R.n⟩
theorem plE_k (x : Ev) : 0 ≤ (plE x).k ∧ (plE x).k ≤ 255 := by show 0 ≤ x.k % 256 ∧ x.k % 256 ≤ 255; omega
theorem plE_ch (x : Ev) : (plE x).ch.length ≤ 600 := by
 show (if 600 < x.ch.length then x.ch.take 600 else x.ch).length ≤ 600
 split
 ·simp; omega
 ·omega
theorem tmod_rng (k : Int) : -255 ≤ k.tmod 256 ∧ k.tmod 256 ≤ 255 ∧ (k.tmod 256 + 256).tmod 256 = k % 256 := by
 have h1 : -255 ≤ k.tmod 256 ∧ k.tmod 256 ≤ 255 := by
  have := Int.tmod_lt_of_pos k (show (0 : Int) < 256 by decide)
  have h2 := Int.lt_tmod_of_pos k (show (0 : Int) < 256 by decide)
  omega
 refine ⟨h1.1, h1.2, ?_⟩
 rw [Int.tmod_eq_emod_of_nonneg (by omega)]
 have e := Int.tmod_eq_emod (a := k) (b := 256)
 split at e <;> omega
set_option maxRecDepth 100000 in
set_option maxHeartbeats 4000000 in
theorem bPlain (x : Ev) (hc : x.ch.length ≤ 140737488355328) : PCalls Tryz.prog 32 [rE x] (rE (plE x)) := by
 refine pcalls_of (E := E) (fn := Tryz.f32) 18 [.cell 2 35] rfl rfl rfl rfl (by decide) rfl ?_
 obtain ⟨h1, h2, h3⟩ := tmod_rng x.k
 have e1 : IntKind.i64.wrap (x.k.tmod 256 + 256) = x.k.tmod 256 + 256 := i64w (by omega) (by omega)
 have e2 : IntKind.i64.wrap (256 + x.k.tmod 256) = x.k.tmod 256 + 256 := by rw [Int.add_comm]; exact e1
 have e3 : 256 + x.k.tmod 256 = x.k.tmod 256 + 256 := Int.add_comm _ _
 by_cases hl : 600 < x.ch.length
 ·have ep : plE x = { x with k := x.k % 256, ch := x.ch.take 600 } := by unfold plE; rw [if_pos hl]
  rw [ep]
  repeat' (first
   | (with_reducible first | refine r_seq ?_ | refine r_block ?_ | refine fork_not ?_ | refine fork_and ?_ | refine fork_or ?_ | refine chk_ok (by kernel_rfl) ?_)
   | ((with_reducible first | refine fork_dec ?_ ?_ | refine fork_eq ?_ ?_ | refine fork_ne ?_ ?_ | refine fork_intro ?_ ?_) <;> intro h <;> try (exfalso; first | omega | exact h rfl | (revert h; decide) | (cases h; done)))
   | ((with_reducible show False); omega)
   | ((first | (with_reducible first | refine r_exit ?_ | refine r_skip ?_ | refine r_cond ?_ | refine r_region ?_ | refine r_ret ?_ | show VX _ _ _ _ _ _ _ | show vstep _ _ _ _ _ | show vskip _ _ _ | show withV _ _) | ((with_reducible show endA _ _ _ _ _ _ _); simp -implicitDefEqProofs only [endA]) | (with_reducible first | refine pick_viewG default (by first | omega | (simp only [LN, e1, e2, e3, h3]; omega)) (by first | omega | (simp only [LN, e1, e2, e3, h3]; omega)) ?_ | refine pick_own default (by first | omega | (simp only [LN, e1, e2, e3, h3]; omega)) ?_ | refine And.intro (by first | decide | omega | assumption | (simp only [LN, e1, e2, e3, h3]; omega)) ?_) | ((with_reducible show pickE _ _ _); first | refine pickE_intro _ ⟨by omega, by rfl⟩ ?_ | refine pickE_intro _ (by rfl) ?_) | fail); try simp -dsimp -implicitDefEqProofs (maxSteps := 1000000) (disch := first | omega | (simp only [LN, e1, e2, e3, h3]; omega)) only [go_sem, e1, e2, e3, h3])
   | fail)
  all_goals first | omega | (simp; done)
 ·have ep : plE x = { x with k := x.k % 256 } := by unfold plE; rw [if_neg hl]
  rw [ep]
  repeat' (first
   | (with_reducible first | refine r_seq ?_ | refine r_block ?_ | refine fork_not ?_ | refine fork_and ?_ | refine fork_or ?_ | refine chk_ok (by kernel_rfl) ?_)
   | ((with_reducible first | refine fork_dec ?_ ?_ | refine fork_eq ?_ ?_ | refine fork_ne ?_ ?_ | refine fork_intro ?_ ?_) <;> intro h <;> try (exfalso; first | omega | exact h rfl | (revert h; decide) | (cases h; done)))
   | ((with_reducible show False); omega)
   | ((first | (with_reducible first | refine r_exit ?_ | refine r_skip ?_ | refine r_cond ?_ | refine r_region ?_ | refine r_ret ?_ | show VX _ _ _ _ _ _ _ | show vstep _ _ _ _ _ | show vskip _ _ _ | show withV _ _) | ((with_reducible show endA _ _ _ _ _ _ _); simp -implicitDefEqProofs only [endA]) | (with_reducible first | refine pick_viewG default (by first | omega | (simp only [LN, e1, e2, e3, h3]; omega)) (by first | omega | (simp only [LN, e1, e2, e3, h3]; omega)) ?_ | refine pick_own default (by first | omega | (simp only [LN, e1, e2, e3, h3]; omega)) ?_ | refine And.intro (by first | decide | omega | assumption | (simp only [LN, e1, e2, e3, h3]; omega)) ?_) | ((with_reducible show pickE _ _ _); first | refine pickE_intro _ ⟨by omega, by rfl⟩ ?_ | refine pickE_intro _ (by rfl) ?_) | fail); try simp -dsimp -implicitDefEqProofs (maxSteps := 1000000) (disch := first | omega | (simp only [LN, e1, e2, e3, h3]; omega)) only [go_sem, e1, e2, e3, h3])
   | fail)
  all_goals first | omega | (simp; done)
set_option maxRecDepth 100000 in
set_option maxHeartbeats 4000000 in
theorem bOwn (x : Ev) (hk : 0 ≤ x.k ∧ x.k ≤ 255) (hc : x.ch.length ≤ 1000000) : PCalls Tryz.prog 12 [rE x] (eE x) := by
 refine pcalls_of (E := E) (fn := Tryz.f12) 23 [.cell 2 41] rfl rfl rfl rfl (by decide) rfl ?_
 have e1 : IntKind.u8.wrap x.k = x.k := by rw [wr8]; omega
 repeat' (first
  | (with_reducible first | refine r_seq ?_ | refine r_block ?_ | refine fork_not ?_ | refine fork_and ?_ | refine fork_or ?_ | refine chk_ok (by kernel_rfl) ?_)
  | ((with_reducible first | refine fork_dec ?_ ?_ | refine fork_eq ?_ ?_ | refine fork_ne ?_ ?_ | refine fork_intro ?_ ?_) <;> intro h <;> try (exfalso; first | omega | exact h rfl | (revert h; decide) | (cases h; done)))
  | ((with_reducible show False); omega)
  | ((first | (with_reducible first | refine r_exit ?_ | refine r_skip ?_ | refine r_cond ?_ | refine r_region ?_ | refine r_ret ?_ | show VX _ _ _ _ _ _ _ | show vstep _ _ _ _ _ | show vskip _ _ _ | show withV _ _) | ((with_reducible show endA _ _ _ _ _ _ _); simp -implicitDefEqProofs only [endA]) | (with_reducible first | refine pick_viewG default (by first | omega | (simp only [LN, e1]; omega)) (by first | omega | (simp only [LN, e1]; omega)) ?_ | refine pick_own default (by first | omega | (simp only [LN, e1]; omega)) ?_ | refine And.intro (by first | decide | omega | assumption | (simp only [LN, e1]; omega)) ?_) | ((with_reducible show pickE _ _ _); first | refine pickE_intro _ ⟨by omega, by rfl⟩ ?_ | refine pickE_intro _ (by rfl) ?_) | fail); try simp -dsimp -implicitDefEqProofs (maxSteps := 1000000) (disch := first | omega | (simp only [LN, e1]; omega)) only [go_sem, e1])
  | fail)
 all_goals first | omega | (simp; done)
end Go.Proofs.YtckhjklcfagkoaaGreatDoor