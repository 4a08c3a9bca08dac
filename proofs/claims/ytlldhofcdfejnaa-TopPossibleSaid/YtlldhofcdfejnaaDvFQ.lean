/- Contracts of functions of this program, and the plain facts that they rest on. No conditions. -/
import Derived.Test.YtlldhofcdfejnaaDvF0Q
set_option linter.unusedSimpArgs false
set_option linter.unusedVariables false
namespace Go.Proofs.Ytlldhofcdfejnaa
open Go Go.Ab
attribute [local irreducible] callK callF loopQ vstep vskip pickE hideP
set_option maxRecDepth 100000
attribute [local go_sem] deO peO cuO liO thO hiO noO
set_option maxRecDepth 100000 in
set_option maxHeartbeats 4000000 in
theorem tWrite (A : Dv) (J : Nat → List (Int × Int)) (k : Nat) (hk : k < 8) (h : WF A) (r : Nat) (hr : r < A.n) (hj : (jk A J r).length ≤ 1000000000) (o v : Int) (ho : o / 64 = r ∧ o % 8 = 0) (hv : 0 ≤ v ∧ v ≤ 18446744073709551615) : ACallsX Try.prog 33 [.loc (4 + k) 0, .p (.v (.int .u64 o)), .p (.v (.int .u64 v))] [deO A 1 2 3 4, peO A, cuO A, liO A J 12, thO A 0 0 18, thO A 1 0 18, thO A 2 0 18, thO A 3 0 18, thO A 4 0 18, thO A 5 0 18, thO A 6 0 18, thO A 7 0 18, hiO A J 0, hiO A J 1, hiO A J 2, hiO A J 3, hiO A J 4, hiO A J 5, noO A 0, noO A 1, noO A 2, noO A 3, noO A 4, noO A 5, noO A 6, noO A 7] (fun g : Bool => .p (.tup [])) (fun g : Bool => [deO (A.put r o v) 1 2 3 4, peO (A.put r o v), cuO (A.put r o v), liO (A.put r o v) (jput A J r g) 26, thO (A.put r o v) 0 0 18, thO (A.put r o v) 1 0 18, thO (A.put r o v) 2 0 18, thO (A.put r o v) 3 0 18, thO (A.put r o v) 4 0 18, thO (A.put r o v) 5 0 18, thO (A.put r o v) 6 0 18, thO (A.put r o v) 7 0 18, .dead, .dead, .dead, .dead, .dead, .dead, noO (A.put r o v) 0, noO (A.put r o v) 1, noO (A.put r o v) 2, noO (A.put r o v) 3, noO (A.put r o v) 4, noO (A.put r o v) 5, noO (A.put r o v) 6, noO (A.put r o v) 7, hiO (A.put r o v) (jput A J r g) 0, hiO (A.put r o v) (jput A J r g) 1, hiO (A.put r o v) (jput A J r g) 2, hiO (A.put r o v) (jput A J r g) 3, hiO (A.put r o v) (jput A J r g) 4, hiO (A.put r o v) (jput A J r g) 5]) := by
 refine acallsx_of (E := E) (fn := Try.f33) 40 [] rfl rfl rfl rfl (by decide) rfl (fun _ => rfl) ?_
 have h6 := h.n6
 have hc := h.cur
 have hl := h.len r (by omega)
 have e2 : IntKind.u64.wrap (o.tdiv 8) = o / 8 := by rw [Int.tdiv_eq_ediv_of_nonneg (by omega), IntKind.wrap_u64]; omega
 have e1 : IntKind.u64.wrap (o.tdiv 64) = o / 64 := by rw [Int.tdiv_eq_ediv_of_nonneg (by omega), IntKind.wrap_u64]; omega
 obtain ⟨ho1, ho2⟩ := ho
 have hd := drop_row (jk A J r) (A.hist r)
 have hs : r = 0 ∧ o / 64 = 0 ∨ r = 1 ∧ o / 64 = 1 ∨ r = 2 ∧ o / 64 = 2 ∨ r = 3 ∧ o / 64 = 3 ∨ r = 4 ∧ o / 64 = 4 ∨ r = 5 ∧ o / 64 = 5 := by omega
 rcases hs with ⟨rfl, e3⟩ | ⟨rfl, e3⟩ | ⟨rfl, e3⟩ | ⟨rfl, e3⟩ | ⟨rfl, e3⟩ | ⟨rfl, e3⟩
 all_goals
  repeat' (first
   | (with_reducible first | refine r_seq ?_ | refine r_block ?_ | refine fork_not ?_ | refine fork_and ?_ | refine fork_or ?_ | refine chk_ok (by kernel_rfl) ?_)
   | ((with_reducible first | refine fork_dec ?_ ?_ | refine fork_eq ?_ ?_ | refine fork_ne ?_ ?_ | refine fork_intro ?_ ?_) <;> intro h <;> try (exfalso; first | omega | exact h rfl | (revert h; decide) | (cases h; done)))
   | ((with_reducible show False); omega)
   | ((with_reducible first | refine r_gr0 [0] (by with_unfolding_all exact rfl) ?_ | refine r_gr1 [0] (by with_unfolding_all exact rfl) ?_ | refine r_gr2 [0] (by with_unfolding_all exact rfl) ?_ | refine r_gr3 [0] (by with_unfolding_all exact rfl) ?_ | refine r_gr4 [0] (by with_unfolding_all exact rfl) ?_ | refine r_gr5 [0] (by with_unfolding_all exact rfl) ?_ | refine r_gr6 [0] (by with_unfolding_all exact rfl) ?_ | refine r_gr7 [0] (by with_unfolding_all exact rfl) ?_ | refine r_gr8 [0] (by with_unfolding_all exact rfl) ?_ | refine r_gr9 [0] (by with_unfolding_all exact rfl) ?_ | refine r_gr10 [0] (by with_unfolding_all exact rfl) ?_); simp -dsimp -implicitDefEqProofs (maxSteps := 1000000) (disch := first | omega | (simp only [LN, e1, e2, e3, hc, hd]; omega)) only [go_sem, e1, e2, e3, hc, hd])
   | ((first | (with_reducible first | refine r_exit ?_ | refine r_skip ?_ | refine r_cond ?_ | refine r_region ?_ | refine r_ret ?_ | show VX _ _ _ _ _ _ _ | show vstep _ _ _ _ _ | show vskip _ _ _ | show withV _ _) | ((with_reducible show endA _ _ _ _ _ _ _); simp -implicitDefEqProofs only [endA]) | (with_reducible first | refine pick_viewG default (by first | omega | (simp only [LN, e1, e2, e3, hc, hd]; omega)) (by first | omega | (simp only [LN, e1, e2, e3, hc, hd]; omega)) ?_ | refine pick_own default (by first | omega | (simp only [LN, e1, e2, e3, hc, hd]; omega)) ?_ | refine And.intro (by first | decide | omega | assumption | (simp only [LN, e1, e2, e3, hc, hd]; omega)) ?_ | refine And.intro ?_ ?_) | ((with_reducible show pickE _ _ _); first | refine pickE_intro _ ⟨by omega, by rfl⟩ ?_ | refine pickE_intro _ (by rfl) ?_) | fail); try simp -dsimp -implicitDefEqProofs (maxSteps := 1000000) (disch := first | omega | (simp only [LN, e1, e2, e3, hc, hd]; omega)) only [go_sem, e1, e2, e3, hc, hd])
   | fail)
  ·(refine endX_i (true) ?_; simp -implicitDefEqProofs only [endA]; (simp -dsimp -implicitDefEqProofs (maxSteps := 1000000) (disch := first | omega | (simp only [LN, jk_put, put_hist, put_p]; omega)) only [go_sem, jk_put, put_hist, put_p]; try trivial))
   simp [List.map_set, eU, eWr]
  ·(refine endX_i (false) ?_; simp -implicitDefEqProofs only [endA]; (simp -dsimp -implicitDefEqProofs (maxSteps := 1000000) (disch := first | omega | (simp only [LN, jk_put, put_hist, put_p]; omega)) only [go_sem, jk_put, put_hist, put_p]; try trivial))
   simp [List.map_set, eU, eWr]
end Go.Proofs.Ytlldhofcdfejnaa