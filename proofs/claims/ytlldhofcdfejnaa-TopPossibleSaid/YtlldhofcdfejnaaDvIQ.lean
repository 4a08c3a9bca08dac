/- Contracts of functions of this program, and the plain facts that they rest on. No conditions. -/
import Derived.Test.YtlldhofcdfejnaaDvI0Q
set_option linter.unusedSimpArgs false
set_option linter.unusedVariables false
namespace Go.Proofs.Ytlldhofcdfejnaa
open Go Go.Ab
attribute [local irreducible] callK callF loopQ vstep vskip pickE hideP
set_option maxRecDepth 100000
attribute [local go_sem] deO peO cuO liO thO hiO noO
set_option maxRecDepth 100000 in
set_option maxHeartbeats 4000000 in
theorem tFlush (A : Dv) (J : Nat → List (Int × Int)) (k : Nat) (hk : k < 8) (h : WF A) (o : Int) (ho : 0 ≤ o ∧ o ≤ 18446744073709551615) : ACalls Try.prog 15 [.loc (4 + k) 0, .p (.v (.int .u64 o))] [deO A 1 2 3 4, peO A, cuO A, liO A J 12, thO A 0 0 18, thO A 1 0 18, thO A 2 0 18, thO A 3 0 18, thO A 4 0 18, thO A 5 0 18, thO A 6 0 18, thO A 7 0 18, hiO A J 0, hiO A J 1, hiO A J 2, hiO A J 3, hiO A J 4, hiO A J 5, noO A 0, noO A 1, noO A 2, noO A 3, noO A 4, noO A 5, noO A 6, noO A 7] (.p (.tup [])) [deO (A.flush k o) 1 2 3 4, peO (A.flush k o), cuO (A.flush k o), liO (A.flush k o) J 12, thO (A.flush k o) 0 0 18, thO (A.flush k o) 1 0 18, thO (A.flush k o) 2 0 18, thO (A.flush k o) 3 0 18, thO (A.flush k o) 4 0 18, thO (A.flush k o) 5 0 18, thO (A.flush k o) 6 0 18, thO (A.flush k o) 7 0 18, hiO (A.flush k o) J 0, hiO (A.flush k o) J 1, hiO (A.flush k o) J 2, hiO (A.flush k o) J 3, hiO (A.flush k o) J 4, hiO (A.flush k o) J 5, noO (A.flush k o) 0, noO (A.flush k o) 1, noO (A.flush k o) 2, noO (A.flush k o) 3, noO (A.flush k o) 4, noO (A.flush k o) 5, noO (A.flush k o) 6, noO (A.flush k o) 7] := by
 refine acalls_of (E := E) (fn := Try.f15) 55 [] rfl rfl rfl rfl (by decide) rfl rfl ?_
 have h6 := h.n6
 have ks := dSize6 A J h.n6
 have kc := tCnt A J k hk (A.isB o)
 by_cases hc : A.cntB (A.isB o) = true
 ·have hb : A.isB o = true := cntB_of hc
  simp [Dv.isB] at hb
  obtain ⟨r, hr⟩ : ∃ r, r = (o / 64).toNat := ⟨_, rfl⟩
  have hr6 : r < 6 := by omega
  have hrn : r < (A.cnt k (A.isB o)).n := by rw [(cnt_p A k _).1]; omega
  have hl := h.len r hr6
  have e1 : IntKind.u64.wrap (o.tdiv 64) = (r : Int) := by rw [Int.tdiv_eq_ediv_of_nonneg (by omega), IntKind.wrap_u64]; omega
  have e2 : IntKind.i64.wrap (r : Int) = (r : Int) := by rw [IntKind.wrap_i64]; omega
  have hcd := (cnt_p A k (A.isB o)).2.2.2.2.1
  have hch := (cnt_p A k (A.isB o)).2.2.2.1
  have e3 : IntKind.u64.wrap (((A.cnt k (A.isB o)).hist r).length : Int) = ((A.cnt k (A.isB o)).hist r).length := by rw [hch, IntKind.wrap_u64]; omega
  have e4 : IntKind.u64.wrap ((A.cnt k (A.isB o)).done r + ((A.cnt k (A.isB o)).hist r).length) = (A.cnt k (A.isB o)).done r + ((A.cnt k (A.isB o)).hist r).length := by rw [hch, hcd, IntKind.wrap_u64]; omega
  rw [hc] at kc
  rw [show A.flush k o = (A.cnt k (A.isB o)).noted k r from by rw [hr]; exact if_pos hc]
  repeat' (first
   | (with_reducible first | refine r_seq ?_ | refine r_block ?_ | refine fork_not ?_ | refine fork_and ?_ | refine fork_or ?_ | refine chk_ok (by rcases lt8 hk with rfl | rfl | rfl | rfl | rfl | rfl | rfl | rfl <;> kernel_rfl) ?_)
   | ((with_reducible first | refine fork_dec ?_ ?_ | refine fork_eq ?_ ?_ | refine fork_ne ?_ ?_ | refine fork_intro ?_ ?_) <;> intro h <;> try (exfalso; first | omega | exact h rfl | (revert h; decide) | (cases h; done)))
   | ((with_reducible show False); omega)
   | ((first | (with_reducible first | refine r_exit ?_ | refine r_skip ?_ | refine r_cond ?_ | refine r_region ?_ | refine r_ret ?_ | show VX _ _ _ _ _ _ _ | show vstep _ _ _ _ _ | show vskip _ _ _ | show withV _ _) | ((with_reducible show endA _ _ _ _ _ _ _); simp -implicitDefEqProofs only [endA]) | (with_reducible first | refine pick_viewG default (by first | omega | (simp only [LN, e1, e2, e3, e4]; omega)) (by first | omega | (simp only [LN, e1, e2, e3, e4]; omega)) ?_ | refine pick_own default (by first | omega | (simp only [LN, e1, e2, e3, e4]; omega)) ?_ | refine And.intro (by first | decide | omega | assumption | (simp only [LN, e1, e2, e3, e4]; omega)) ?_) | (with_reducible first | apply callK_lent | apply callF_lent | apply hideP_own) | ((with_reducible apply callA_go); (first | exact ks | exact kc | fail)) | ((with_reducible show pickE _ _ _); first | refine pickE_intro _ ⟨by omega, by rfl⟩ ?_ | refine pickE_intro _ (by rfl) ?_) | fail); try simp -dsimp -implicitDefEqProofs (maxSteps := 1000000) (disch := first | omega | (simp only [LN, e1, e2, e3, e4]; omega)) only [go_sem, e1, e2, e3, e4])
   | fail)
  simp [Dv.noted, jk]
 ·simp only [Bool.not_eq_true] at hc
  rw [hc] at kc
  rw [show A.flush k o = A.cnt k (A.isB o) from by unfold Dv.flush; rw [hc]; rfl]
  repeat' (first
   | (with_reducible first | refine r_seq ?_ | refine r_block ?_ | refine fork_not ?_ | refine fork_and ?_ | refine fork_or ?_ | refine chk_ok (by kernel_rfl) ?_)
   | ((with_reducible first | refine fork_dec ?_ ?_ | refine fork_eq ?_ ?_ | refine fork_ne ?_ ?_ | refine fork_intro ?_ ?_) <;> intro h <;> try (exfalso; first | omega | exact h rfl | (revert h; decide) | (cases h; done)))
   | ((with_reducible show False); omega)
   | ((first | (with_reducible first | refine r_exit ?_ | refine r_skip ?_ | refine r_cond ?_ | refine r_region ?_ | refine r_ret ?_ | show VX _ _ _ _ _ _ _ | show vstep _ _ _ _ _ | show vskip _ _ _ | show withV _ _) | ((with_reducible show endA _ _ _ _ _ _ _); simp -implicitDefEqProofs only [endA]) | (with_reducible first | refine pick_viewG default (by first | omega | (simp only [LN]; omega)) (by first | omega | (simp only [LN]; omega)) ?_ | refine pick_own default (by first | omega | (simp only [LN]; omega)) ?_ | refine And.intro (by first | decide | omega | assumption | (simp only [LN]; omega)) ?_) | (with_reducible first | apply callK_lent | apply callF_lent | apply hideP_own) | ((with_reducible apply callA_go); (first | exact ks | exact kc | fail)) | ((with_reducible show pickE _ _ _); first | refine pickE_intro _ ⟨by omega, by rfl⟩ ?_ | refine pickE_intro _ (by rfl) ?_) | fail); try simp -dsimp -implicitDefEqProofs (maxSteps := 1000000) (disch := first | omega | (simp only [LN]; omega)) only [go_sem])
   | fail)
end Go.Proofs.Ytlldhofcdfejnaa