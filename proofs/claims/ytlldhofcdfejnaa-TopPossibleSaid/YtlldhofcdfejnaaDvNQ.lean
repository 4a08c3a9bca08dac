/- Contracts of functions of this program, and the plain facts that they rest on. No conditions. -/
import Derived.Test.YtlldhofcdfejnaaDvMQ
set_option linter.unusedSimpArgs false
set_option linter.unusedVariables false
namespace Go.Proofs.Ytlldhofcdfejnaa
open Go Go.Ab
attribute [local irreducible] callK callF loopQ vstep vskip pickE hideP
set_option maxRecDepth 100000
attribute [local go_sem] eU deO peO cuO liO thO hiO noO
def Dv.fresh (n : Nat) (ws : List Int) : Dv := { n := n, per := ws, cur := ws, hist := fun _ => [], done := fun _ => 0, err := fun _ => 0, note := fun _ _ => none, off := false, armed := false, left := 0, ex := 0 }
def J0 : Nat → List (Int × Int) := fun _ => []
theorem jk_fresh (n : Nat) (ws : List Int) (r : Nat) : jk (Dv.fresh n ws) J0 r = [] := rfl
theorem WF.fresh (n : Nat) (ws : List Int) (h0 : 0 < n) (h6 : n ≤ 6) (hw : ws.length = 8 * n) : WF (Dv.fresh n ws) :=
 ⟨h0, h6, hw, hw, fun r _ x hx => by simp [Dv.fresh] at hx, fun _ _ _ => rfl, fun r _ => by simp [Dv.fresh], trivial⟩
set_option maxRecDepth 100000 in
set_option maxHeartbeats 4000000 in
theorem dOf6 (ws : List Int) (n : Nat) (hw : ws.length = 8 * n) (hn : 0 < n ∧ n ≤ 6) : ACalls Try.prog 28 [.sl 0 1 0 (8 * n)] [.arr 1 (ws.map eU)] (.loc 1 0) [peO (Dv.fresh n ws), deO (Dv.fresh n ws) 0 2 3 4, cuO (Dv.fresh n ws), liO (Dv.fresh n ws) J0 12, thO (Dv.fresh n ws) 0 1 18, thO (Dv.fresh n ws) 1 1 18, thO (Dv.fresh n ws) 2 1 18, thO (Dv.fresh n ws) 3 1 18, thO (Dv.fresh n ws) 4 1 18, thO (Dv.fresh n ws) 5 1 18, thO (Dv.fresh n ws) 6 1 18, thO (Dv.fresh n ws) 7 1 18, hiO (Dv.fresh n ws) J0 0, hiO (Dv.fresh n ws) J0 1, hiO (Dv.fresh n ws) J0 2, hiO (Dv.fresh n ws) J0 3, hiO (Dv.fresh n ws) J0 4, hiO (Dv.fresh n ws) J0 5, noO (Dv.fresh n ws) 0, noO (Dv.fresh n ws) 1, noO (Dv.fresh n ws) 2, noO (Dv.fresh n ws) 3, noO (Dv.fresh n ws) 4, noO (Dv.fresh n ws) 5, noO (Dv.fresh n ws) 6, noO (Dv.fresh n ws) 7] := by
 refine acalls_of (E := E) (fn := Try.f28) 29 [.tmp 2] rfl rfl rfl rfl (by decide) rfl rfl ?_
 have k75 := dClone ws (by omega)
 rw [hw] at k75
 have hq : IntKind.i64.wrap (((8 * n : Nat) : Int).tdiv 8) = n := by
  rw [show (((8 * n : Nat) : Int).tdiv 8) = ((8 * n / 8 : Nat) : Int) from rfl, IntKind.wrap_i64]; omega
 repeat' ((fail_if_success (with_reducible show awp _ _ (Code.region 2 _ _) _ _)); first
  | (with_reducible first | refine r_seq ?_ | refine r_block ?_ | refine fork_not ?_ | refine fork_and ?_ | refine fork_or ?_ | refine chk_ok (by kernel_rfl) ?_)
  | ((with_reducible first | refine fork_dec ?_ ?_ | refine fork_eq ?_ ?_ | refine fork_ne ?_ ?_ | refine fork_intro ?_ ?_) <;> intro h <;> try (exfalso; first | omega | exact h rfl | (revert h; decide) | (cases h; done)))
  | ((with_reducible show False); omega)
  | ((first | (with_reducible first | refine r_exit ?_ | refine r_skip ?_ | refine r_cond ?_ | refine r_region ?_ | refine r_ret ?_ | show VX _ _ _ _ _ _ _ | show vstep _ _ _ _ _ | show vskip _ _ _ | show withV _ _) | ((with_reducible show endA _ _ _ _ _ _ _); simp -implicitDefEqProofs only [endA]) | (with_reducible first | refine pick_viewG default (by first | omega | (simp only [LN, hq]; omega)) (by first | omega | (simp only [LN, hq]; omega)) ?_ | refine pick_own default (by first | omega | (simp only [LN, hq]; omega)) ?_ | refine And.intro (by first | decide | omega | assumption | (simp only [LN, hq]; omega)) ?_) | (with_reducible first | apply callK_lent | apply callF_lent | apply hideP_own) | ((with_reducible apply callA_go); (first | exact k75 | fail)) | ((with_reducible show pickE _ _ _); first | refine pickE_intro _ ⟨by omega, by rfl⟩ ?_ | refine pickE_intro _ (by rfl) ?_) | fail); try simp -dsimp -implicitDefEqProofs (maxSteps := 1000000) (disch := first | omega | (simp only [LN, hq]; omega)) only [go_sem, hq])
  | fail)
 all_goals try omega
 refine r_pvar 2 n 6 (.int .u64 0) (.slice none 0 0) (by rfl) hn.1 rfl rfl ?_
 simp -implicitDefEqProofs only [rowP]
 simp -dsimp -implicitDefEqProofs (maxSteps := 1000000) (disch := first | omega | (simp only [LN]; omega)) only [go_sem]
 repeat' (first
  | (with_reducible first | refine r_seq ?_ | refine r_block ?_ | refine fork_not ?_ | refine fork_and ?_ | refine fork_or ?_ | refine chk_ok (by kernel_rfl) ?_)
  | ((with_reducible first | refine fork_dec ?_ ?_ | refine fork_eq ?_ ?_ | refine fork_ne ?_ ?_ | refine fork_intro ?_ ?_) <;> intro h <;> try (exfalso; first | omega | exact h rfl | (revert h; decide) | (cases h; done)))
  | ((with_reducible show False); omega)
  | ((first | (with_reducible first | refine r_exit ?_ | refine r_skip ?_ | refine r_cond ?_ | refine r_region ?_ | refine r_ret ?_ | show VX _ _ _ _ _ _ _ | show vstep _ _ _ _ _ | show vskip _ _ _ | show withV _ _) | ((with_reducible show endA _ _ _ _ _ _ _); simp -implicitDefEqProofs only [endA]) | (with_reducible first | refine pick_viewG default (by first | omega | (simp only [LN, hq]; omega)) (by first | omega | (simp only [LN, hq]; omega)) ?_ | refine pick_own default (by first | omega | (simp only [LN, hq]; omega)) ?_ | refine And.intro (by first | decide | omega | assumption | (simp only [LN, hq]; omega)) ?_) | ((with_reducible show pickE _ _ _); first | refine pickE_intro _ ⟨by omega, by rfl⟩ ?_ | refine pickE_intro _ (by rfl) ?_) | fail); try simp -dsimp -implicitDefEqProofs (maxSteps := 1000000) (disch := first | omega | (simp only [LN, hq]; omega)) only [go_sem, hq])
  | fail)
 refine r_rounds 9 ?_
 iterate 9
  refine roundQ_i ?_
  repeat' (first
   | (with_reducible first | refine r_seq ?_ | refine r_block ?_ | refine fork_not ?_ | refine fork_and ?_ | refine fork_or ?_ | refine chk_ok (by kernel_rfl) ?_)
   | ((with_reducible first | refine fork_dec ?_ ?_ | refine fork_eq ?_ ?_ | refine fork_ne ?_ ?_ | refine fork_intro ?_ ?_) <;> intro h <;> try (exfalso; first | omega | exact h rfl | (revert h; decide) | (cases h; done)))
   | ((with_reducible show False); omega)
   | ((first | (with_reducible first | refine r_exit ?_ | refine r_skip ?_ | refine r_cond ?_ | refine r_region ?_ | refine r_ret ?_ | show VX _ _ _ _ _ _ _ | show vstep _ _ _ _ _ | show vskip _ _ _ | show withV _ _) | ((with_reducible show endA _ _ _ _ _ _ _); simp -implicitDefEqProofs only [endA]) | (with_reducible first | refine pick_viewG default (by first | omega | (simp only [LN]; omega)) (by first | omega | (simp only [LN]; omega)) ?_ | refine pick_own default (by first | omega | (simp only [LN]; omega)) ?_ | refine And.intro (by first | decide | omega | assumption | (simp only [LN]; omega)) ?_) | ((with_reducible show pickE _ _ _); first | refine pickE_intro _ ⟨by omega, by rfl⟩ ?_ | refine pickE_intro _ (by rfl) ?_) | fail); try simp -dsimp -implicitDefEqProofs (maxSteps := 1000000) (disch := first | omega | (simp only [LN]; omega)) only [go_sem])
   | fail)
 all_goals simp [Dv.fresh, jk]
end Go.Proofs.Ytlldhofcdfejnaa