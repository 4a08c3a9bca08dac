/- Contracts of functions of this program, and the plain facts that they rest on. No conditions. -/
import Derived.Test.YtlldhofcdfejnaaDvH0Q
import Derived.Test.YtlldhofcdfejnaaDvFQ
set_option linter.unusedSimpArgs false
set_option linter.unusedVariables false
namespace Go.Proofs.Ytlldhofcdfejnaa
open Go Go.Ab
attribute [local irreducible] callK callF loopQ vstep vskip pickE hideP
set_option maxRecDepth 100000
attribute [local go_sem] deO peO cuO liO thO hiO noO
set_option maxRecDepth 100000 in
set_option maxHeartbeats 4000000 in
theorem tStore (A : Dv) (J : Nat → List (Int × Int)) (k : Nat) (hk : k < 8) (h : WF A) (hj : ∀ r, r < 6 → (jk A J r).length ≤ 1000000000) (o v : Int) (ho : 0 ≤ o ∧ o ≤ 18446744073709551615) (hv : 0 ≤ v ∧ v ≤ 18446744073709551615) : ACallsX Try.prog 18 [.loc (4 + k) 0, .p (.v (.int .u64 o)), .p (.v (.int .u64 v))] [deO A 1 2 3 4, peO A, cuO A, liO A J 12, thO A 0 0 18, thO A 1 0 18, thO A 2 0 18, thO A 3 0 18, thO A 4 0 18, thO A 5 0 18, thO A 6 0 18, thO A 7 0 18, hiO A J 0, hiO A J 1, hiO A J 2, hiO A J 3, hiO A J 4, hiO A J 5, noO A 0, noO A 1, noO A 2, noO A 3, noO A 4, noO A 5, noO A 6, noO A 7] (fun g : Bool => .p (.tup [])) (fun g : Bool => [deO (A.store k o v) 1 2 3 4, peO (A.store k o v), cuO (A.store k o v), liO (A.store k o v) (jsto A J k o g) 26, thO (A.store k o v) 0 0 18, thO (A.store k o v) 1 0 18, thO (A.store k o v) 2 0 18, thO (A.store k o v) 3 0 18, thO (A.store k o v) 4 0 18, thO (A.store k o v) 5 0 18, thO (A.store k o v) 6 0 18, thO (A.store k o v) 7 0 18, .dead, .dead, .dead, .dead, .dead, .dead, noO (A.store k o v) 0, noO (A.store k o v) 1, noO (A.store k o v) 2, noO (A.store k o v) 3, noO (A.store k o v) 4, noO (A.store k o v) 5, noO (A.store k o v) 6, noO (A.store k o v) 7, hiO (A.store k o v) (jsto A J k o g) 0, hiO (A.store k o v) (jsto A J k o g) 1, hiO (A.store k o v) (jsto A J k o g) 2, hiO (A.store k o v) (jsto A J k o g) 3, hiO (A.store k o v) (jsto A J k o g) 4, hiO (A.store k o v) (jsto A J k o g) 5]) := by
 refine acallsx_of (E := E) (fn := Try.f18) 27 [] rfl rfl rfl rfl (by decide) rfl (fun _ => rfl) ?_
 have h6 := h.n6
 have kw := tWord A J k hk h.n6 o ho
 have kc := tCnt A J k hk (A.isW o)
 by_cases hc : A.cntB (A.isW o) = true
 ·obtain ⟨h1, h2, h3⟩ := isW_of (cntB_of hc) ho.1
  rw [hc] at kc
  have kp := tWrite (A.cnt k (A.isW o)) J k hk (h.cnt _ _) (o / 64).toNat (by rw [(cnt_p A k _).1]; exact h1) (by rw [jk_cnt]; exact hj _ (by omega)) o v ⟨h2, h3⟩ hv
  have es : ∀ g, jsto A J k o g = jput (A.cnt k (A.isW o)) J (o / 64).toNat g := fun g => if_pos hc
  rw [show A.store k o v = (A.cnt k (A.isW o)).put (o / 64).toNat o v from if_pos hc]
  repeat' (first
   | (with_reducible first | refine r_seq ?_ | refine r_block ?_ | refine fork_not ?_ | refine fork_and ?_ | refine fork_or ?_ | refine chk_ok (by kernel_rfl) ?_)
   | ((with_reducible first | refine fork_dec ?_ ?_ | refine fork_eq ?_ ?_ | refine fork_ne ?_ ?_ | refine fork_intro ?_ ?_) <;> intro h <;> try (exfalso; first | omega | exact h rfl | (revert h; decide) | (cases h; done)))
   | ((with_reducible show False); omega)
   | ((with_reducible first | refine r_gr0 [34] (by with_unfolding_all exact rfl) ?_ | refine r_gr1 [34] (by with_unfolding_all exact rfl) ?_ | refine r_gr2 [34] (by with_unfolding_all exact rfl) ?_ | refine r_gr3 [34] (by with_unfolding_all exact rfl) ?_ | refine r_gr4 [34] (by with_unfolding_all exact rfl) ?_ | refine r_gr5 [34] (by with_unfolding_all exact rfl) ?_ | refine r_gr6 [34] (by with_unfolding_all exact rfl) ?_ | refine r_gr7 [34] (by with_unfolding_all exact rfl) ?_ | refine r_gr8 [34] (by with_unfolding_all exact rfl) ?_ | refine r_gr9 [34] (by with_unfolding_all exact rfl) ?_ | refine r_gr10 [34] (by with_unfolding_all exact rfl) ?_); simp -dsimp -implicitDefEqProofs (maxSteps := 1000000) (disch := first | omega | (simp only [LN]; omega)) only [go_sem])
   | ((first | (with_reducible first | refine r_exit ?_ | refine r_skip ?_ | refine r_cond ?_ | refine r_region ?_ | refine r_ret ?_ | show VX _ _ _ _ _ _ _ | show vstep _ _ _ _ _ | show vskip _ _ _ | show withV _ _) | ((with_reducible show endA _ _ _ _ _ _ _); simp -implicitDefEqProofs only [endA]) | (with_reducible first | refine pick_viewG default (by first | omega | (simp only [LN]; omega)) (by first | omega | (simp only [LN]; omega)) ?_ | refine pick_own default (by first | omega | (simp only [LN]; omega)) ?_ | refine And.intro (by first | decide | omega | assumption | (simp only [LN]; omega)) ?_) | (with_reducible first | apply callK_lent | apply callF_lent | apply hideP_own) | ((with_reducible apply callA_go); (first | exact kw | exact kc | fail)) | ((with_reducible apply callX_go); (first | exact kp | fail); intro gq) | ((with_reducible show pickE _ _ _); first | refine pickE_intro _ ⟨by omega, by rfl⟩ ?_ | refine pickE_intro _ (by rfl) ?_) | fail); try simp -dsimp -implicitDefEqProofs (maxSteps := 1000000) (disch := first | omega | (simp only [LN]; omega)) only [go_sem])
   | fail)
  (refine endX_i (gq) ?_; simp -implicitDefEqProofs only [endA]; (simp -dsimp -implicitDefEqProofs (maxSteps := 1000000) (disch := first | omega | (simp only [LN, es]; omega)) only [go_sem, es]; try trivial))
 ·simp only [Bool.not_eq_true] at hc
  rw [hc] at kc
  rw [show A.store k o v = A.cnt k (A.isW o) from by unfold Dv.store; rw [hc]; rfl]
  have es : ∀ g, jsto A J k o g = J := fun g => by unfold jsto; rw [hc]; rfl
  repeat' (first
   | (with_reducible first | refine r_seq ?_ | refine r_block ?_ | refine fork_not ?_ | refine fork_and ?_ | refine fork_or ?_ | refine chk_ok (by kernel_rfl) ?_)
   | ((with_reducible first | refine fork_dec ?_ ?_ | refine fork_eq ?_ ?_ | refine fork_ne ?_ ?_ | refine fork_intro ?_ ?_) <;> intro h <;> try (exfalso; first | omega | exact h rfl | (revert h; decide) | (cases h; done)))
   | ((with_reducible show False); omega)
   | ((first | (with_reducible first | refine r_exit ?_ | refine r_skip ?_ | refine r_cond ?_ | refine r_region ?_ | refine r_ret ?_ | show VX _ _ _ _ _ _ _ | show vstep _ _ _ _ _ | show vskip _ _ _ | show withV _ _) | ((with_reducible show endA _ _ _ _ _ _ _); simp -implicitDefEqProofs only [endA]) | (with_reducible first | refine pick_viewG default (by first | omega | (simp only [LN]; omega)) (by first | omega | (simp only [LN]; omega)) ?_ | refine pick_own default (by first | omega | (simp only [LN]; omega)) ?_ | refine And.intro (by first | decide | omega | assumption | (simp only [LN]; omega)) ?_) | (with_reducible first | apply callK_lent | apply callF_lent | apply hideP_own) | ((with_reducible apply callA_go); (first | exact kw | exact kc | fail)) | ((with_reducible show pickE _ _ _); first | refine pickE_intro _ ⟨by omega, by rfl⟩ ?_ | refine pickE_intro _ (by rfl) ?_) | fail); try simp -dsimp -implicitDefEqProofs (maxSteps := 1000000) (disch := first | omega | (simp only [LN]; omega)) only [go_sem])
   | fail)
  (refine endX_i (true) ?_; simp -implicitDefEqProofs only [endA]; (simp -dsimp -implicitDefEqProofs (maxSteps := 1000000) (disch := first | omega | (simp only [LN, es]; omega)) only [go_sem, es]; try trivial))
end Go.Proofs.Ytlldhofcdfejnaa