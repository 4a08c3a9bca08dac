/- Contracts of functions of this program, and the plain facts that they rest on. No conditions. -/
import Derived.Test.YtlldhofcdfejnaaDvAQ
set_option linter.unusedSimpArgs false
set_option linter.unusedVariables false
namespace Go.Proofs.Ytlldhofcdfejnaa
open Go Go.Ab
attribute [local irreducible] callK callF loopQ vstep vskip pickE hideP
set_option maxRecDepth 100000
attribute [local go_sem] deO peO cuO liO thO hiO noO
def Dv.fail (A : Dv) (k : Nat) (e : Int) : Dv := if A.err k = 0 then { A with err := upd A.err k e } else A
def Dv.onS (A : Dv) (k : Nat) (v : Bool) : Dv := if A.off = true then A.fail k 3 else if v = true then A else A.fail k 2
def Dv.cnt (A : Dv) (k : Nat) (v : Bool) : Dv := if A.off = true then A.fail k 3 else if v = false then A.fail k 2 else if A.armed = true then (if A.left = 0 then ({ A with off := true } : Dv).fail k 3 else { A with left := IntKind.i64.wrap (A.left - 1), ex := IntKind.u64.wrap (A.ex + 1) }) else { A with ex := IntKind.u64.wrap (A.ex + 1) }
def Dv.cntB (A : Dv) (v : Bool) : Bool := !A.off && (v && !(A.armed && decide (A.left = 0)))
set_option maxRecDepth 100000 in
set_option maxHeartbeats 4000000 in
theorem tFail (A : Dv) (J : Nat → List (Int × Int)) (k : Nat) (hk : k < 8) (e : Int) : ACalls Try.prog 43 [.loc (4 + k) 0, .p (.v (.int .i64 e))] [deO A 1 2 3 4, peO A, cuO A, liO A J 12, thO A 0 0 18, thO A 1 0 18, thO A 2 0 18, thO A 3 0 18, thO A 4 0 18, thO A 5 0 18, thO A 6 0 18, thO A 7 0 18, hiO A J 0, hiO A J 1, hiO A J 2, hiO A J 3, hiO A J 4, hiO A J 5, noO A 0, noO A 1, noO A 2, noO A 3, noO A 4, noO A 5, noO A 6, noO A 7] (.p (.tup [])) [deO (A.fail k e) 1 2 3 4, peO (A.fail k e), cuO (A.fail k e), liO (A.fail k e) J 12, thO (A.fail k e) 0 0 18, thO (A.fail k e) 1 0 18, thO (A.fail k e) 2 0 18, thO (A.fail k e) 3 0 18, thO (A.fail k e) 4 0 18, thO (A.fail k e) 5 0 18, thO (A.fail k e) 6 0 18, thO (A.fail k e) 7 0 18, hiO (A.fail k e) J 0, hiO (A.fail k e) J 1, hiO (A.fail k e) J 2, hiO (A.fail k e) J 3, hiO (A.fail k e) J 4, hiO (A.fail k e) J 5, noO (A.fail k e) 0, noO (A.fail k e) 1, noO (A.fail k e) 2, noO (A.fail k e) 3, noO (A.fail k e) 4, noO (A.fail k e) 5, noO (A.fail k e) 6, noO (A.fail k e) 7] := by
 refine acalls_of (E := E) (fn := Try.f43) 13 [] rfl rfl rfl rfl (by decide) rfl rfl ?_
 repeat' (first
  | (with_reducible first | refine r_seq ?_ | refine r_block ?_ | refine fork_not ?_ | refine fork_and ?_ | refine fork_or ?_ | refine chk_ok (by kernel_rfl) ?_)
  | ((with_reducible first | refine fork_dec ?_ ?_ | refine fork_eq ?_ ?_ | refine fork_ne ?_ ?_ | refine fork_intro ?_ ?_) <;> intro h)
  | ((with_reducible show False); omega)
  | ((first | (with_reducible first | refine r_exit ?_ | refine r_skip ?_ | refine r_cond ?_ | refine r_region ?_ | refine r_ret ?_ | show VX _ _ _ _ _ _ _ | show vstep _ _ _ _ _ | show vskip _ _ _ | show withV _ _) | ((with_reducible show endA _ _ _ _ _ _ _); simp -implicitDefEqProofs only [endA]) | (with_reducible first | refine pick_viewG default (by first | omega | (simp only [LN]; omega)) (by first | omega | (simp only [LN]; omega)) ?_ | refine pick_own default (by first | omega | (simp only [LN]; omega)) ?_ | refine And.intro (by first | decide | omega | assumption | (simp only [LN]; omega)) ?_) | ((with_reducible show pickE _ _ _); first | refine pickE_intro _ ⟨by omega, by rfl⟩ ?_ | refine pickE_intro _ (by rfl) ?_) | fail); try simp -dsimp -implicitDefEqProofs (maxSteps := 1000000) (disch := first | omega | (simp only [LN]; omega)) only [go_sem])
  | fail)
 all_goals (simp [Dv.fail, upd, jk, h])
end Go.Proofs.Ytlldhofcdfejnaa