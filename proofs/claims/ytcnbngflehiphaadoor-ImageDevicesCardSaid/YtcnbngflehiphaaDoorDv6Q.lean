/- Contracts of functions of this program, and the plain facts that they rest on. No conditions. -/
import Derived.Test.YtcnbngflehiphaaDoorDv5Q
set_option linter.unusedSimpArgs false
set_option linter.unusedVariables false
namespace Go.Proofs.YtcnbngflehiphaaDoor
open Go Go.Ab
attribute [local irreducible] callK callF loopQ vstep vskip pickE hideP
attribute [local go_sem] eI
set_option maxRecDepth 100000
attribute [local go_sem] eU dvO thO mpO liZ dvC thC
set_option maxRecDepth 100000 in
set_option maxHeartbeats 4000000 in
theorem c9 (p0 : List UInt8) : PCalls Tryd.prog 9 [.view 1 (p0.map eB)] (.v (.bool true)) := by
 refine pcalls_facts ⟨_, rfl, rfl, by decide⟩ fun hf => ?_
 simp only [go_sem, big] at hf
 refine pcalls_of (E := E) (fn := Tryd.f9) 69 [.tmp 2] rfl rfl rfl rfl (by decide) rfl ?_
 have k18 := c18 p0
 obtain ⟨p, hp⟩ : ∃ p, p = wholeM p0 := ⟨_, rfl⟩
 have hl : p.length = 64 * (p.length / 64) ∧ p.length / 64 ≤ 40 := by
  rw [hp]; unfold wholeM; rw [List.length_take]; omega
 rw [← hp] at k18
 have k14 := c14 p
 rw [show newM p = p from if_pos (by omega), show newE p = 0 by unfold newE; rw [if_neg (by omega), if_neg (by omega)]] at k14
 by_cases h0 : p = []
 ·subst h0
  repeat' (first
   | (with_reducible first | refine r_seq ?_ | refine r_block ?_ | refine fork_not ?_ | refine fork_and ?_ | refine fork_or ?_ | refine chk_ok (by kernel_rfl) ?_)
   | ((with_reducible first | refine fork_dec ?_ ?_ | refine fork_eq ?_ ?_ | refine fork_ne ?_ ?_ | refine fork_intro ?_ ?_) <;> intro h <;> try (exfalso; first | omega | exact h rfl | (revert h; decide) | (cases h; done)))
   | ((with_reducible show False); omega)
   | ((first | (with_reducible first | refine r_exit ?_ | refine r_skip ?_ | refine r_cond ?_ | refine r_region ?_ | refine r_ret ?_ | show VX _ _ _ _ _ _ _ | show vstep _ _ _ _ _ | show vskip _ _ _ | show withV _ _) | ((with_reducible show endA _ _ _ _ _ _ _); simp -implicitDefEqProofs only [endA]) | (with_reducible first | refine pick_viewG default (by first | omega | (simp only [LN]; omega)) (by first | omega | (simp only [LN]; omega)) ?_ | refine pick_own default (by first | omega | (simp only [LN]; omega)) ?_ | refine And.intro (by first | decide | omega | assumption | (simp only [LN]; omega)) ?_) | ((with_reducible apply callK_pure); (first | exact c13 | exact k18 | exact k14 | exact dDev0 | fail)) | ((with_reducible apply callF_lend); (first | exact c13 | exact k18 | exact k14 | exact dDev0 | fail); rfl) | ((with_reducible apply callF_go); (first | exact c13 | exact k18 | exact k14 | exact dDev0 | fail)) | ((with_reducible show pickE _ _ _); first | refine pickE_intro _ ⟨by omega, by rfl⟩ ?_ | refine pickE_intro _ (by rfl) ?_) | fail); try simp -dsimp -implicitDefEqProofs (maxSteps := 1000000) (disch := first | omega | (simp only [LN]; omega)) only [go_sem])
   | fail)
 ·have h1 : 0 < p.length := List.length_pos_iff.2 h0
  obtain ⟨n, hn⟩ : ∃ n, n = p.length / 64 := ⟨_, rfl⟩
  have hp' : p.length = 64 * n := by omega
  have hb : 0 < n ∧ n ≤ 4096 := by omega
  repeat' (first
   | (with_reducible first | refine r_seq ?_ | refine r_block ?_ | refine fork_not ?_ | refine fork_and ?_ | refine fork_or ?_ | refine chk_ok (by kernel_rfl) ?_)
   | ((with_reducible first | refine fork_dec ?_ ?_ | refine fork_eq ?_ ?_ | refine fork_ne ?_ ?_ | refine fork_intro ?_ ?_) <;> intro h <;> try (exfalso; first | omega | exact h rfl | (revert h; decide) | (cases h; done)))
   | ((with_reducible show False); omega)
   | ((first | (with_reducible first | refine r_exit ?_ | refine r_skip ?_ | refine r_cond ?_ | refine r_region ?_ | refine r_ret ?_ | show VX _ _ _ _ _ _ _ | show vstep _ _ _ _ _ | show vskip _ _ _ | show withV _ _) | ((with_reducible show endA _ _ _ _ _ _ _); simp -implicitDefEqProofs only [endA]) | (with_reducible first | refine pick_viewG default (by first | omega | (simp only [LN]; omega)) (by first | omega | (simp only [LN]; omega)) ?_ | refine pick_own default (by first | omega | (simp only [LN]; omega)) ?_ | refine And.intro (by first | decide | omega | assumption | (simp only [LN]; omega)) ?_) | ((with_reducible apply callK_pure); (first | exact c13 | exact k18 | exact k14 | exact c15 p (by omega) | exact c21 p p | fail)) | ((with_reducible apply callF_lend); (first | exact c13 | exact k18 | exact k14 | exact c15 p (by omega) | exact c21 p p | fail); rfl) | ((with_reducible apply callF_go); (first | exact c13 | exact k18 | exact k14 | exact c15 p (by omega) | exact c21 p p | fail)) | (with_reducible first | apply callK_lent | apply callF_lent | apply hideP_own) | ((with_reducible apply callA_go); (first | exact dDev p n hp' hb | exact dLinesP p n hp' hb | exact dDirtyP p n hp' hb | exact dPersP p n hp' hb | exact dCurP p n hp' hb | exact dOf p n hp' hb | fail)) | ((with_reducible show pickE _ _ _); first | refine pickE_intro _ ⟨by omega, by rfl⟩ ?_ | refine pickE_intro _ (by rfl) ?_) | fail); try simp -dsimp -implicitDefEqProofs (maxSteps := 1000000) (disch := first | omega | (simp only [LN]; omega)) only [go_sem])
   | fail)
end Go.Proofs.YtcnbngflehiphaaDoor