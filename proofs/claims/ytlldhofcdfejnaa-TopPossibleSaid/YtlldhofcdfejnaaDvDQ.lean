/- Contracts of functions of this program, and the plain facts that they rest on. No conditions. -/
import Derived.Test.YtlldhofcdfejnaaDvCQ
set_option linter.unusedSimpArgs false
set_option linter.unusedVariables false
namespace Go.Proofs.Ytlldhofcdfejnaa
open Go Go.Ab
attribute [local irreducible] callK callF loopQ vstep vskip pickE hideP
set_option maxRecDepth 100000
attribute [local go_sem] deO peO cuO liO thO hiO noO
theorem cnt_f {A : Dv} {k : Nat} {v : Bool} (h : (!A.off && v) = false) : A.cnt k v = A.onS k v := by
 cases ho : A.off <;> cases v <;> simp_all [Dv.cnt, Dv.onS]
theorem cntB_f {A : Dv} {v : Bool} (h : (!A.off && v) = false) : A.cntB v = false := by
 cases ho : A.off <;> cases v <;> simp_all [Dv.cntB]
set_option maxRecDepth 100000 in
set_option maxHeartbeats 4000000 in
theorem tCnt (A : Dv) (J : Nat → List (Int × Int)) (k : Nat) (hk : k < 8) (v : Bool) : ACalls Try.prog 29 [.loc (4 + k) 0, .p (.v (.bool v))] [deO A 1 2 3 4, peO A, cuO A, liO A J 12, thO A 0 0 18, thO A 1 0 18, thO A 2 0 18, thO A 3 0 18, thO A 4 0 18, thO A 5 0 18, thO A 6 0 18, thO A 7 0 18, hiO A J 0, hiO A J 1, hiO A J 2, hiO A J 3, hiO A J 4, hiO A J 5, noO A 0, noO A 1, noO A 2, noO A 3, noO A 4, noO A 5, noO A 6, noO A 7] (.p (.v (.bool (A.cntB v)))) [deO (A.cnt k v) 1 2 3 4, peO (A.cnt k v), cuO (A.cnt k v), liO (A.cnt k v) J 12, thO (A.cnt k v) 0 0 18, thO (A.cnt k v) 1 0 18, thO (A.cnt k v) 2 0 18, thO (A.cnt k v) 3 0 18, thO (A.cnt k v) 4 0 18, thO (A.cnt k v) 5 0 18, thO (A.cnt k v) 6 0 18, thO (A.cnt k v) 7 0 18, hiO (A.cnt k v) J 0, hiO (A.cnt k v) J 1, hiO (A.cnt k v) J 2, hiO (A.cnt k v) J 3, hiO (A.cnt k v) J 4, hiO (A.cnt k v) J 5, noO (A.cnt k v) 0, noO (A.cnt k v) 1, noO (A.cnt k v) 2, noO (A.cnt k v) 3, noO (A.cnt k v) 4, noO (A.cnt k v) 5, noO (A.cnt k v) 6, noO (A.cnt k v) 7] := by
 refine acalls_of (E := E) (fn := Try.f29) 42 [.tmp 4] rfl rfl rfl rfl (by decide) rfl rfl ?_
 by_cases hv : (!A.off && v) = true
 ·have kn := tOn1 A J _ hk v hv
  have kf := tFail { A with off := true } J _ hk 3
  repeat' (first
   | (with_reducible first | refine r_seq ?_ | refine r_block ?_ | refine fork_not ?_ | refine fork_and ?_ | refine fork_or ?_ | refine chk_ok (by kernel_rfl) ?_)
   | ((with_reducible first | refine fork_dec ?_ ?_ | refine fork_eq ?_ ?_ | refine fork_ne ?_ ?_ | refine fork_intro ?_ ?_) <;> intro h)
   | ((with_reducible show False); omega)
   | ((first | (with_reducible first | refine r_exit ?_ | refine r_skip ?_ | refine r_cond ?_ | refine r_region ?_ | refine r_ret ?_ | show VX _ _ _ _ _ _ _ | show vstep _ _ _ _ _ | show vskip _ _ _ | show withV _ _) | ((with_reducible show endA _ _ _ _ _ _ _); simp -implicitDefEqProofs only [endA]) | (with_reducible first | refine pick_viewG default (by first | omega | (simp only [LN]; omega)) (by first | omega | (simp only [LN]; omega)) ?_ | refine pick_own default (by first | omega | (simp only [LN]; omega)) ?_ | refine And.intro (by first | decide | omega | assumption | (simp only [LN]; omega)) ?_) | (with_reducible first | apply callK_lent | apply callF_lent | apply hideP_own) | ((with_reducible apply callA_go); (first | exact kn | exact kf | fail)) | ((with_reducible show pickE _ _ _); first | refine pickE_intro _ ⟨by omega, by rfl⟩ ?_ | refine pickE_intro _ (by rfl) ?_) | fail); try simp -dsimp -implicitDefEqProofs (maxSteps := 1000000) (disch := first | omega | (simp only [LN]; omega)) only [go_sem])
   | fail)
  all_goals (simp at hv; simp [Dv.cnt, Dv.cntB, Dv.fail, jk, *])
 ·simp only [Bool.not_eq_true] at hv
  rw [cnt_f hv, cntB_f hv]
  have kn := tOn0 A J _ hk v hv
  repeat' (first
   | (with_reducible first | refine r_seq ?_ | refine r_block ?_ | refine fork_not ?_ | refine fork_and ?_ | refine fork_or ?_ | refine chk_ok (by kernel_rfl) ?_)
   | ((with_reducible first | refine fork_dec ?_ ?_ | refine fork_eq ?_ ?_ | refine fork_ne ?_ ?_ | refine fork_intro ?_ ?_) <;> intro h)
   | ((with_reducible show False); omega)
   | ((first | (with_reducible first | refine r_exit ?_ | refine r_skip ?_ | refine r_cond ?_ | refine r_region ?_ | refine r_ret ?_ | show VX _ _ _ _ _ _ _ | show vstep _ _ _ _ _ | show vskip _ _ _ | show withV _ _) | ((with_reducible show endA _ _ _ _ _ _ _); simp -implicitDefEqProofs only [endA]) | (with_reducible first | refine pick_viewG default (by first | omega | (simp only [LN]; omega)) (by first | omega | (simp only [LN]; omega)) ?_ | refine pick_own default (by first | omega | (simp only [LN]; omega)) ?_ | refine And.intro (by first | decide | omega | assumption | (simp only [LN]; omega)) ?_) | (with_reducible first | apply callK_lent | apply callF_lent | apply hideP_own) | ((with_reducible apply callA_go); (first | exact kn | fail)) | ((with_reducible show pickE _ _ _); first | refine pickE_intro _ ⟨by omega, by rfl⟩ ?_ | refine pickE_intro _ (by rfl) ?_) | fail); try simp -dsimp -implicitDefEqProofs (maxSteps := 1000000) (disch := first | omega | (simp only [LN]; omega)) only [go_sem])
   | fail)
end Go.Proofs.Ytlldhofcdfejnaa