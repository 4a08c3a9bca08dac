/- Contracts of functions of this program, and the plain facts that they rest on. No conditions. -/
import Derived.Test.YtckhjklcfagkoaaDoorScOQ
set_option linter.unusedSimpArgs false
set_option linter.unusedVariables false
namespace Go.Proofs.YtckhjklcfagkoaaDoor
open Go Go.Ab
attribute [local irreducible] callK callF loopQ vstep vskip pickE hideP
open Go.RowKit
set_option maxRecDepth 100000
attribute [local go_sem] eE rE bs_inj
set_option maxRecDepth 100000 in
set_option maxHeartbeats 4000000 in
theorem c3 (x : Ev) (R : Rng x) (hc : x.ch.length ≤ 140737488355328) : PCalls Tryd.prog 3 [rE x] (.v (.bool true)) := by
 refine pcalls_of (E := E) (fn := Tryd.f3) 22 [.tmp 2] rfl rfl rfl rfl (by decide) rfl ?_
 have k1 := bPlain x hc
 have hR := plE_rng R
 have hk := plE_k x
 have hch := plE_ch x
 generalize plE x = y at *
 have k2 := bOwn y hk (by omega)
 have k3 := sValid y (by omega)
 have k4 := rValid y (by omega)
 have k5 := sText y hR (by omega)
 have k6 := rText y hR (by omega)
 repeat' (first
  | (with_reducible first | refine r_seq ?_ | refine r_block ?_ | refine fork_not ?_ | refine fork_and ?_ | refine fork_or ?_ | refine chk_ok (by kernel_rfl) ?_)
  | ((with_reducible first | refine fork_dec ?_ ?_ | refine fork_eq ?_ ?_ | refine fork_ne ?_ ?_ | refine fork_intro ?_ ?_) <;> intro h <;> try (exfalso; first | omega | exact h rfl | (revert h; decide) | (cases h; done)))
  | ((with_reducible show False); omega)
  | ((first | (with_reducible first | refine r_exit ?_ | refine r_skip ?_ | refine r_cond ?_ | refine r_region ?_ | refine r_ret ?_ | show VX _ _ _ _ _ _ _ | show vstep _ _ _ _ _ | show vskip _ _ _ | show withV _ _) | ((with_reducible show endA _ _ _ _ _ _ _); simp -implicitDefEqProofs only [endA]) | (with_reducible first | refine pick_viewG default (by first | omega | (simp only [LN]; omega)) (by first | omega | (simp only [LN]; omega)) ?_ | refine pick_own default (by first | omega | (simp only [LN]; omega)) ?_ | refine And.intro (by first | decide | omega | assumption | (simp only [LN]; omega)) ?_) | ((with_reducible apply callK_pure); (first | exact k1 | exact sAwake | exact k2 | exact k3 | exact k4 | exact k5 | exact k6 | fail)) | ((with_reducible apply callF_lend); (first | exact k1 | exact sAwake | exact k2 | exact k3 | exact k4 | exact k5 | exact k6 | fail); rfl) | ((with_reducible apply callF_go); (first | exact k1 | exact sAwake | exact k2 | exact k3 | exact k4 | exact k5 | exact k6 | fail)) | ((with_reducible show pickE _ _ _); first | refine pickE_intro _ ⟨by omega, by rfl⟩ ?_ | refine pickE_intro _ (by rfl) ?_) | fail); try simp -dsimp -implicitDefEqProofs (maxSteps := 1000000) (disch := first | omega | (simp only [LN]; omega)) only [go_sem])
  | fail)
 all_goals first | (exfalso; simp at *; done) | (simp; done)
end Go.Proofs.YtckhjklcfagkoaaDoor