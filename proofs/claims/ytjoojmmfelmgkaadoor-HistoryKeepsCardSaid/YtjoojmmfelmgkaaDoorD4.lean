/- Contracts of functions of this program, and the plain facts that they rest on. No conditions. -/
import Derived.Test.YtjoojmmfelmgkaaDoorD3
set_option linter.unusedSimpArgs false
set_option linter.unusedVariables false
namespace Go.Proofs.YtjoojmmfelmgkaaDoor
open Go Go.Ab
attribute [local irreducible] callK callF loopQ vstep vskip pickE hideP
attribute [local go_sem] eC rC eE hc hP hW oW oP sR oH newC
theorem c24i (x : H) (i : Nat) (hi : i < x.cl.length) : PCalls Tryd.prog 24 [hP x, .v (.int .i64 i)] (.v (.bool (decide ((x.cl.getD i default).en < 0)))) := by
  have h := c24e x (i : Int)
  rw [show decide ((0 ≤ (i : Int) ∧ (i : Int) < x.cl.length) ∧ (x.cl.getD (i : Int).toNat default).en < 0) = decide ((x.cl.getD i default).en < 0) from decide_eq_decide.2 (by rw [Int.toNat_natCast]; omega)] at h
  exact h
theorem c24m (x : H) : PCalls Tryd.prog 24 [hP x, .v (.int .i64 (-1))] (.v (.bool false)) := by
  have h := c24e x (-1)
  rw [decide_eq_false (by omega)] at h
  exact h
theorem c24L (x : H) : PCalls Tryd.prog 24 [hP x, .v (.int .i64 x.cl.length)] (.v (.bool false)) := by
  have h := c24e x x.cl.length
  rw [decide_eq_false (by omega)] at h
  exact h
set_option maxRecDepth 100000 in
set_option maxHeartbeats 4000000 in
theorem c12 (x : H) (n : Int) (he : 0 ≤ x.era ∧ x.era ≤ 1000000) (hl : x.cl.length ≤ 1000000) (hk : ∀ i, 0 ≤ (x.cl.getD i default).k ∧ (x.cl.getD i default).k < 256) : PCalls Tryd.prog 12 [hP x, hW x.cl n x.era] (.v (.bool true)) := by
  refine pcalls_facts ⟨_, rfl, rfl, by decide⟩ fun hf => ?_
  simp only [go_sem, big] at hf
  refine pcalls_of (E := E) (fn := Tryd.f12) 72 [.tmp 4] rfl rfl rfl rfl (by decide) rfl ?_
  repeat' (first
    | (with_reducible first | refine r_seq ?_ | refine r_block ?_ | refine fork_not ?_ | refine fork_and ?_ | refine fork_or ?_ | refine chk_ok (by kernel_rfl) ?_)
    | ((with_reducible first | refine fork_dec ?_ ?_ | refine fork_eq ?_ ?_ | refine fork_ne ?_ ?_ | refine fork_intro ?_ ?_) <;> intro h)
    | ((with_reducible show False); omega)
    | ((first | (with_reducible first | refine r_exit ?_ | refine r_skip ?_ | refine r_cond ?_ | refine r_region ?_ | show VX _ _ _ _ _ _ _ | show vstep _ _ _ _ _ | show vskip _ _ _ | show withV _ _) | ((with_reducible show endA _ _ _ _ _ _ _); simp -implicitDefEqProofs only [endA])); simp -dsimp -implicitDefEqProofs (maxSteps := 1000000) (disch := first | omega | (simp only [LN]; omega)) only [go_sem, Int.reduceToNat, Int.reducePow, Nat.reducePow, Int.reduceAdd, Int.reduceMul, Int.reduceSub, Int.reduceNeg, Nat.reduceAdd, Nat.reduceMul, Nat.reduceSub, Nat.reduceEqDiff, Nat.reduceLT, Nat.reduceLeDiff])
    | ((first | (with_reducible refine r_ret ?_) | (with_reducible refine pick_viewG default (by first | omega | (simp only [LN]; omega)) (by first | omega | (simp only [LN]; omega)) ?_) | (with_reducible refine pick_own default (by first | omega | (simp only [LN]; omega)) ?_) | (with_reducible refine And.intro (by first | decide | omega | assumption | (simp only [LN]; omega)) ?_) | ((with_reducible apply callK_pure); (first | exact c16 x hl | exact c22 x he | fail)) | ((with_reducible apply callF_lend); (first | exact c16 x hl | exact c22 x he | fail); rfl) | ((with_reducible apply callF_go); (first | exact c16 x hl | exact c22 x he | fail)) | ((with_reducible show pickE _ _ _); first | refine pickE_intro _ ⟨by omega, by rfl⟩ ?_ | refine pickE_intro _ (by rfl) ?_) | fail); try simp -dsimp -implicitDefEqProofs (maxSteps := 1000000) (disch := first | omega | (simp only [LN]; omega)) only [go_sem, Int.reduceToNat, Int.reducePow, Nat.reducePow, Int.reduceAdd, Int.reduceMul, Int.reduceSub, Int.reduceNeg, Nat.reduceAdd, Nat.reduceMul, Nat.reduceSub, Nat.reduceEqDiff, Nat.reduceLT, Nat.reduceLeDiff])
    | fail)
  refine r_loopA (α := Nat) [0, 5, 25, 26] (fun i b => [(27, aI i)]) (fun i b => []) (fun i => []) (fun i => i ≤ x.cl.length) (fun i => x.cl.length - i) (0) ?h0_1 ?hs0_1 ?I_1 ?hI_1 ?round_1
  case hI_1 => intro x; (simp -dsimp -implicitDefEqProofs (maxSteps := 1000000) (disch := first | omega | (simp only [LN]; omega)) only [go_sem, Int.reduceToNat, Int.reducePow, Nat.reducePow, Int.reduceAdd, Int.reduceMul, Int.reduceSub, Int.reduceNeg, Nat.reduceAdd, Nat.reduceMul, Nat.reduceSub, Nat.reduceEqDiff, Nat.reduceLT, Nat.reduceLeDiff]) <;> exact rfl
  case hs0_1 => refine wk_auto ?_; (simp -dsimp -implicitDefEqProofs (maxSteps := 1000000) (disch := first | omega | (simp only [LN]; omega)) only [go_sem, Int.reduceToNat, Int.reducePow, Nat.reducePow, Int.reduceAdd, Int.reduceMul, Int.reduceSub, Int.reduceNeg, Nat.reduceAdd, Nat.reduceMul, Nat.reduceSub, Nat.reduceEqDiff, Nat.reduceLT, Nat.reduceLeDiff]) <;> (try omega)
  case h0_1 => omega
  case round_1 =>
    rintro i h1
    have hm : (x.cl.getD i default).k % 256 = (x.cl.getD i default).k := by have := hk i; omega
    repeat' (first
      | (with_reducible first | refine r_seq ?_ | refine r_block ?_ | refine fork_not ?_ | refine fork_and ?_ | refine fork_or ?_ | refine chk_ok (by kernel_rfl) ?_)
      | ((with_reducible first | refine fork_dec ?_ ?_ | refine fork_eq ?_ ?_ | refine fork_ne ?_ ?_ | refine fork_intro ?_ ?_) <;> intro h)
      | ((with_reducible show False); omega)
      | ((first | (with_reducible first | refine r_exit ?_ | refine r_skip ?_ | refine r_cond ?_ | refine r_region ?_ | show VX _ _ _ _ _ _ _ | show vstep _ _ _ _ _ | show vskip _ _ _ | show withV _ _) | ((with_reducible show endA _ _ _ _ _ _ _); simp -implicitDefEqProofs only [endA])); simp -dsimp -implicitDefEqProofs (maxSteps := 1000000) (disch := first | omega | (simp only [LN, hm]; omega)) only [go_sem, Int.reduceToNat, Int.reducePow, Nat.reducePow, Int.reduceAdd, Int.reduceMul, Int.reduceSub, Int.reduceNeg, Nat.reduceAdd, Nat.reduceMul, Nat.reduceSub, Nat.reduceEqDiff, Nat.reduceLT, Nat.reduceLeDiff, hm])
      | ((first | (with_reducible refine r_ret ?_) | (with_reducible refine pick_viewG default (by first | omega | (simp only [LN, hm]; omega)) (by first | omega | (simp only [LN, hm]; omega)) ?_) | (with_reducible refine pick_own default (by first | omega | (simp only [LN, hm]; omega)) ?_) | (with_reducible refine And.intro (by first | decide | omega | assumption | (simp only [LN, hm]; omega)) ?_) | ((with_reducible apply callK_pure); (first | exact c19 (x.cl.getD i default).k (x.cl.getD i default).key (x.cl.getD i default).val (x.cl.getD i default).old | exact c21 (x.cl.getD i default).rv (x.cl.getD i default).ok (x.cl.getD i default).code | exact c24i x i (by omega) | exact c24m x | exact c24L x | fail)) | ((with_reducible apply callF_lend); (first | exact c19 (x.cl.getD i default).k (x.cl.getD i default).key (x.cl.getD i default).val (x.cl.getD i default).old | exact c21 (x.cl.getD i default).rv (x.cl.getD i default).ok (x.cl.getD i default).code | exact c24i x i (by omega) | exact c24m x | exact c24L x | fail); rfl) | ((with_reducible apply callF_go); (first | exact c19 (x.cl.getD i default).k (x.cl.getD i default).key (x.cl.getD i default).val (x.cl.getD i default).old | exact c21 (x.cl.getD i default).rv (x.cl.getD i default).ok (x.cl.getD i default).code | exact c24i x i (by omega) | exact c24m x | exact c24L x | fail)) | ((with_reducible show pickE _ _ _); first | refine pickE_intro _ ⟨by omega, by rfl⟩ ?_ | refine pickE_intro _ (by rfl) ?_) | fail); try simp -dsimp -implicitDefEqProofs (maxSteps := 1000000) (disch := first | omega | (simp only [LN, hm]; omega)) only [go_sem, Int.reduceToNat, Int.reducePow, Nat.reducePow, Int.reduceAdd, Int.reduceMul, Int.reduceSub, Int.reduceNeg, Nat.reduceAdd, Nat.reduceMul, Nat.reduceSub, Nat.reduceEqDiff, Nat.reduceLT, Nat.reduceLeDiff, hm])
      | fail)
    all_goals first
      | (refine loopQ_next (i + 1) ?_ ?_ ?_; (omega); (show _ < _; omega); (simp -dsimp -implicitDefEqProofs (maxSteps := 1000000) (disch := first | omega | (simp only [LN]; omega)) only [go_sem, Int.reduceToNat, Int.reducePow, Nat.reducePow, Int.reduceAdd, Int.reduceMul, Int.reduceSub, Int.reduceNeg, Nat.reduceAdd, Nat.reduceMul, Nat.reduceSub, Nat.reduceEqDiff, Nat.reduceLT, Nat.reduceLeDiff]; try trivial))
      | (exact absurd rfl h)
      | omega
      | trace_state
theorem tm4 (k : Int) : -4 < k.tmod 4 ∧ k.tmod 4 < 4 := by rw [Int.tmod_eq_emod]; split <;> omega
end Go.Proofs.YtjoojmmfelmgkaaDoor
