/- Contracts of functions of this program, and the plain facts that they rest on. No conditions. -/
import Derived.Test.YtkmobahedfdikaaDoorD3
set_option linter.unusedSimpArgs false
set_option linter.unusedVariables false
namespace Go.Proofs.YtkmobahedfdikaaDoor
open Go Go.Ab
attribute [local irreducible] callK callF loopQ vstep vskip pickE hideP
abbrev M64 : Int := 18446744073709551615
theorem make_r {off gen kind : Int} (h0 : 0 ≤ off) (h1 : 0 ≤ gen ∧ gen ≤ 65535) (h2 : 0 ≤ kind ∧ kind ≤ 255) : 0 ≤ (makeM off gen kind).1 := by
  unfold makeM; split
  · simp
  · split
    · simp
    · dsimp only; omega
set_option maxRecDepth 100000 in
set_option maxHeartbeats 4000000 in
theorem c3 (p w : Int) (h0 : 0 ≤ p ∧ p ≤ M64) (hw : -9223372036854775808 ≤ w ∧ w ≤ 9223372036854775807) : PCalls Tryd.prog 3 [.v (.int .u64 p), .v (.int .i64 w)] (.v (.bool true)) := by
  refine pcalls_of (E := E) (fn := Tryd.f3) 44 [.tmp 4] rfl rfl rfl rfl (by decide) rfl ?_
  have h1 := off_r p
  have e0 : ¬ p = 0 → atM p 0 = offM p := fun h => by unfold atM; rw [if_neg (by omega)]; omega
  by_cases hb : p = 0 ∨ w < 0 ∨ 60 ≤ w
  · have e1 : atM p w = 0 := if_pos hb
    repeat' (first
      | (with_reducible first | refine r_seq ?_ | refine r_block ?_ | refine fork_not ?_ | refine fork_and ?_ | refine fork_or ?_ | refine chk_ok (by kernel_rfl) ?_)
      | ((with_reducible first | refine fork_dec ?_ ?_ | refine fork_eq ?_ ?_ | refine fork_ne ?_ ?_ | refine fork_intro ?_ ?_) <;> intro h <;> try (exfalso; first | omega | exact h rfl | (revert h; decide) | (cases h; done)))
      | ((with_reducible show False); omega)
      | ((first | (with_reducible first | refine r_exit ?_ | refine r_skip ?_ | refine r_cond ?_ | refine r_region ?_ | show VX _ _ _ _ _ _ _ | show vstep _ _ _ _ _ | show vskip _ _ _ | show withV _ _) | ((with_reducible show endA _ _ _ _ _ _ _); simp -implicitDefEqProofs only [endA])); simp -dsimp -implicitDefEqProofs (maxSteps := 1000000) (disch := first | omega | (simp only [LN, e1]; omega)) only [go_sem, Int.reduceToNat, Int.reducePow, Nat.reducePow, Int.reduceAdd, Int.reduceMul, Int.reduceSub, Int.reduceNeg, Nat.reduceAdd, Nat.reduceMul, Nat.reduceSub, Nat.reduceEqDiff, Nat.reduceLT, Nat.reduceLeDiff, e1])
      | ((first | (with_reducible refine r_ret ?_) | (with_reducible refine pick_viewG default (by first | omega | (simp only [LN, e1]; omega)) (by first | omega | (simp only [LN, e1]; omega)) ?_) | (with_reducible refine pick_own default (by first | omega | (simp only [LN, e1]; omega)) ?_) | (with_reducible refine And.intro (by first | decide | omega | assumption | (simp only [LN, e1]; omega)) ?_) | ((with_reducible apply callK_pure); (first | exact c12 | exact c11 p w h0.1 hw | exact c13 p h0.1 | fail)) | ((with_reducible apply callF_lend); (first | exact c12 | exact c11 p w h0.1 hw | exact c13 p h0.1 | fail); rfl) | ((with_reducible apply callF_go); (first | exact c12 | exact c11 p w h0.1 hw | exact c13 p h0.1 | fail)) | ((with_reducible show pickE _ _ _); first | refine pickE_intro _ ⟨by omega, by rfl⟩ ?_ | refine pickE_intro _ (by rfl) ?_) | fail); try simp -dsimp -implicitDefEqProofs (maxSteps := 1000000) (disch := first | omega | (simp only [LN, e1]; omega)) only [go_sem, Int.reduceToNat, Int.reducePow, Nat.reducePow, Int.reduceAdd, Int.reduceMul, Int.reduceSub, Int.reduceNeg, Nat.reduceAdd, Nat.reduceMul, Nat.reduceSub, Nat.reduceEqDiff, Nat.reduceLT, Nat.reduceLeDiff, e1])
      | fail)
    all_goals first | rfl | (exfalso; omega)
  · have e1 : atM p w = offM p + 8 * w := if_neg hb
    have e2 : IntKind.u64.wrap w = w := by rw [wr64]; omega
    have e3 : IntKind.u64.wrap (8 * w) = 8 * w := by rw [wr64]; omega
    have e4 : IntKind.u64.wrap (offM p + 8 * w) = offM p + 8 * w := by rw [wr64]; omega
    have e5 := e0 (by omega)
    repeat' (first
      | (with_reducible first | refine r_seq ?_ | refine r_block ?_ | refine fork_not ?_ | refine fork_and ?_ | refine fork_or ?_ | refine chk_ok (by kernel_rfl) ?_)
      | ((with_reducible first | refine fork_dec ?_ ?_ | refine fork_eq ?_ ?_ | refine fork_ne ?_ ?_ | refine fork_intro ?_ ?_) <;> intro h <;> try (exfalso; first | omega | exact h rfl | (revert h; decide) | (cases h; done)))
      | ((with_reducible show False); omega)
      | ((first | (with_reducible first | refine r_exit ?_ | refine r_skip ?_ | refine r_cond ?_ | refine r_region ?_ | show VX _ _ _ _ _ _ _ | show vstep _ _ _ _ _ | show vskip _ _ _ | show withV _ _) | ((with_reducible show endA _ _ _ _ _ _ _); simp -implicitDefEqProofs only [endA])); simp -dsimp -implicitDefEqProofs (maxSteps := 1000000) (disch := first | omega | (simp only [LN, e1, e2, e3, e4, e5]; omega)) only [go_sem, Int.reduceToNat, Int.reducePow, Nat.reducePow, Int.reduceAdd, Int.reduceMul, Int.reduceSub, Int.reduceNeg, Nat.reduceAdd, Nat.reduceMul, Nat.reduceSub, Nat.reduceEqDiff, Nat.reduceLT, Nat.reduceLeDiff, e1, e2, e3, e4, e5])
      | ((first | (with_reducible refine r_ret ?_) | (with_reducible refine pick_viewG default (by first | omega | (simp only [LN, e1, e2, e3, e4, e5]; omega)) (by first | omega | (simp only [LN, e1, e2, e3, e4, e5]; omega)) ?_) | (with_reducible refine pick_own default (by first | omega | (simp only [LN, e1, e2, e3, e4, e5]; omega)) ?_) | (with_reducible refine And.intro (by first | decide | omega | assumption | (simp only [LN, e1, e2, e3, e4, e5]; omega)) ?_) | ((with_reducible apply callK_pure); (first | exact c12 | exact c11 p w h0.1 hw | exact c11 p 0 h0.1 (by omega) | exact c13 p h0.1 | fail)) | ((with_reducible apply callF_lend); (first | exact c12 | exact c11 p w h0.1 hw | exact c11 p 0 h0.1 (by omega) | exact c13 p h0.1 | fail); rfl) | ((with_reducible apply callF_go); (first | exact c12 | exact c11 p w h0.1 hw | exact c11 p 0 h0.1 (by omega) | exact c13 p h0.1 | fail)) | ((with_reducible show pickE _ _ _); first | refine pickE_intro _ ⟨by omega, by rfl⟩ ?_ | refine pickE_intro _ (by rfl) ?_) | fail); try simp -dsimp -implicitDefEqProofs (maxSteps := 1000000) (disch := first | omega | (simp only [LN, e1, e2, e3, e4, e5]; omega)) only [go_sem, Int.reduceToNat, Int.reducePow, Nat.reducePow, Int.reduceAdd, Int.reduceMul, Int.reduceSub, Int.reduceNeg, Nat.reduceAdd, Nat.reduceMul, Nat.reduceSub, Nat.reduceEqDiff, Nat.reduceLT, Nat.reduceLeDiff, e1, e2, e3, e4, e5])
      | fail)
    all_goals first | rfl | (exfalso; omega) | (simp_all; done) | trace_state
set_option maxRecDepth 100000 in
set_option maxHeartbeats 4000000 in
theorem c8 (g : Int) (h0 : 0 ≤ g ∧ g ≤ 65535) : PCalls Tryd.prog 8 [.v (.int .u16 g)] (.v (.bool true)) := by
  refine pcalls_of (E := E) (fn := Tryd.f8) 31 [.tmp 2] rfl rfl rfl rfl (by decide) rfl ?_
  by_cases hg : g = 65535
  · subst hg
    repeat' (first
      | (with_reducible first | refine r_seq ?_ | refine r_block ?_ | refine fork_not ?_ | refine fork_and ?_ | refine fork_or ?_ | refine chk_ok (by kernel_rfl) ?_)
      | ((with_reducible first | refine fork_dec ?_ ?_ | refine fork_eq ?_ ?_ | refine fork_ne ?_ ?_ | refine fork_intro ?_ ?_) <;> intro h <;> try (exfalso; first | omega | exact h rfl | (revert h; decide) | (cases h; done)))
      | ((with_reducible show False); omega)
      | ((first | (with_reducible first | refine r_exit ?_ | refine r_skip ?_ | refine r_cond ?_ | refine r_region ?_ | show VX _ _ _ _ _ _ _ | show vstep _ _ _ _ _ | show vskip _ _ _ | show withV _ _) | ((with_reducible show endA _ _ _ _ _ _ _); simp -implicitDefEqProofs only [endA])); simp -dsimp -implicitDefEqProofs (maxSteps := 1000000) (disch := first | omega | (simp only [LN]; omega)) only [go_sem, Int.reduceToNat, Int.reducePow, Nat.reducePow, Int.reduceAdd, Int.reduceMul, Int.reduceSub, Int.reduceNeg, Nat.reduceAdd, Nat.reduceMul, Nat.reduceSub, Nat.reduceEqDiff, Nat.reduceLT, Nat.reduceLeDiff])
      | ((first | (with_reducible refine r_ret ?_) | (with_reducible refine pick_viewG default (by first | omega | (simp only [LN]; omega)) (by first | omega | (simp only [LN]; omega)) ?_) | (with_reducible refine pick_own default (by first | omega | (simp only [LN]; omega)) ?_) | (with_reducible refine And.intro (by first | decide | omega | assumption | (simp only [LN]; omega)) ?_) | ((with_reducible apply callK_pure); (first | exact c12 | exact c26 65535 h0 | fail)) | ((with_reducible apply callF_lend); (first | exact c12 | exact c26 65535 h0 | fail); rfl) | ((with_reducible apply callF_go); (first | exact c12 | exact c26 65535 h0 | fail)) | ((with_reducible show pickE _ _ _); first | refine pickE_intro _ ⟨by omega, by rfl⟩ ?_ | refine pickE_intro _ (by rfl) ?_) | fail); try simp -dsimp -implicitDefEqProofs (maxSteps := 1000000) (disch := first | omega | (simp only [LN]; omega)) only [go_sem, Int.reduceToNat, Int.reducePow, Nat.reducePow, Int.reduceAdd, Int.reduceMul, Int.reduceSub, Int.reduceNeg, Nat.reduceAdd, Nat.reduceMul, Nat.reduceSub, Nat.reduceEqDiff, Nat.reduceLT, Nat.reduceLeDiff])
      | fail)
    all_goals first | rfl | (simp; done)
  · have e2 : IntKind.u16.wrap (g + 1) = g + 1 := by rw [wr16]; omega
    repeat' (first
      | (with_reducible first | refine r_seq ?_ | refine r_block ?_ | refine fork_not ?_ | refine fork_and ?_ | refine fork_or ?_ | refine chk_ok (by kernel_rfl) ?_)
      | ((with_reducible first | refine fork_dec ?_ ?_ | refine fork_eq ?_ ?_ | refine fork_ne ?_ ?_ | refine fork_intro ?_ ?_) <;> intro h <;> try (exfalso; first | omega | exact h rfl | (revert h; decide) | (cases h; done)))
      | ((with_reducible show False); omega)
      | ((first | (with_reducible first | refine r_exit ?_ | refine r_skip ?_ | refine r_cond ?_ | refine r_region ?_ | show VX _ _ _ _ _ _ _ | show vstep _ _ _ _ _ | show vskip _ _ _ | show withV _ _) | ((with_reducible show endA _ _ _ _ _ _ _); simp -implicitDefEqProofs only [endA])); simp -dsimp -implicitDefEqProofs (maxSteps := 1000000) (disch := first | omega | (simp only [LN, hg, e2, if_neg hg]; omega)) only [go_sem, Int.reduceToNat, Int.reducePow, Nat.reducePow, Int.reduceAdd, Int.reduceMul, Int.reduceSub, Int.reduceNeg, Nat.reduceAdd, Nat.reduceMul, Nat.reduceSub, Nat.reduceEqDiff, Nat.reduceLT, Nat.reduceLeDiff, hg, e2, if_neg hg])
      | ((first | (with_reducible refine r_ret ?_) | (with_reducible refine pick_viewG default (by first | omega | (simp only [LN, hg, e2, if_neg hg]; omega)) (by first | omega | (simp only [LN, hg, e2, if_neg hg]; omega)) ?_) | (with_reducible refine pick_own default (by first | omega | (simp only [LN, hg, e2, if_neg hg]; omega)) ?_) | (with_reducible refine And.intro (by first | decide | omega | assumption | (simp only [LN, hg, e2, if_neg hg]; omega)) ?_) | ((with_reducible apply callK_pure); (first | exact c12 | exact c26 g h0 | fail)) | ((with_reducible apply callF_lend); (first | exact c12 | exact c26 g h0 | fail); rfl) | ((with_reducible apply callF_go); (first | exact c12 | exact c26 g h0 | fail)) | ((with_reducible show pickE _ _ _); first | refine pickE_intro _ ⟨by omega, by rfl⟩ ?_ | refine pickE_intro _ (by rfl) ?_) | fail); try simp -dsimp -implicitDefEqProofs (maxSteps := 1000000) (disch := first | omega | (simp only [LN, hg, e2, if_neg hg]; omega)) only [go_sem, Int.reduceToNat, Int.reducePow, Nat.reducePow, Int.reduceAdd, Int.reduceMul, Int.reduceSub, Int.reduceNeg, Nat.reduceAdd, Nat.reduceMul, Nat.reduceSub, Nat.reduceEqDiff, Nat.reduceLT, Nat.reduceLeDiff, hg, e2, if_neg hg])
      | fail)
    all_goals first | rfl | (simp; done) | (simp_all; done) | trace_state
set_option maxRecDepth 100000 in
set_option maxHeartbeats 4000000 in
theorem c7 (p s : Int) (h0 : 0 ≤ p ∧ p ≤ M64) : PCalls Tryd.prog 7 [.v (.int .u64 p), .v (.int .u64 s)] (.v (.bool true)) := by
  refine pcalls_of (E := E) (fn := Tryd.f7) 50 [.tmp 4] rfl rfl rfl rfl (by decide) rfl ?_
  repeat' (first
    | (with_reducible first | refine r_seq ?_ | refine r_block ?_ | refine fork_not ?_ | refine fork_and ?_ | refine fork_or ?_ | refine chk_ok (by kernel_rfl) ?_)
    | ((with_reducible first | refine fork_dec ?_ ?_ | refine fork_eq ?_ ?_ | refine fork_ne ?_ ?_ | refine fork_intro ?_ ?_) <;> intro h <;> try (exfalso; first | omega | exact h rfl | (revert h; decide) | (cases h; done)))
    | ((with_reducible show False); omega)
    | ((first | (with_reducible first | refine r_exit ?_ | refine r_skip ?_ | refine r_cond ?_ | refine r_region ?_ | show VX _ _ _ _ _ _ _ | show vstep _ _ _ _ _ | show vskip _ _ _ | show withV _ _) | ((with_reducible show endA _ _ _ _ _ _ _); simp -implicitDefEqProofs only [endA])); simp -dsimp -implicitDefEqProofs (maxSteps := 1000000) (disch := first | omega | (simp only [LN]; omega)) only [go_sem, Int.reduceToNat, Int.reducePow, Nat.reducePow, Int.reduceAdd, Int.reduceMul, Int.reduceSub, Int.reduceNeg, Nat.reduceAdd, Nat.reduceMul, Nat.reduceSub, Nat.reduceEqDiff, Nat.reduceLT, Nat.reduceLeDiff])
    | ((first | (with_reducible refine r_ret ?_) | (with_reducible refine pick_viewG default (by first | omega | (simp only [LN]; omega)) (by first | omega | (simp only [LN]; omega)) ?_) | (with_reducible refine pick_own default (by first | omega | (simp only [LN]; omega)) ?_) | (with_reducible refine And.intro (by first | decide | omega | assumption | (simp only [LN]; omega)) ?_) | ((with_reducible apply callK_pure); (first | exact c12 | exact c18 p h0.1 | exact c13 p h0.1 | exact c16 p h0.1 | exact c23 p h0.1 | exact c17 p h0.1 | exact c24 p h0.1 | exact c21 p | exact c22 p s h0.1 | exact c25 p h0.1 | fail)) | ((with_reducible apply callF_lend); (first | exact c12 | exact c18 p h0.1 | exact c13 p h0.1 | exact c16 p h0.1 | exact c23 p h0.1 | exact c17 p h0.1 | exact c24 p h0.1 | exact c21 p | exact c22 p s h0.1 | exact c25 p h0.1 | fail); rfl) | ((with_reducible apply callF_go); (first | exact c12 | exact c18 p h0.1 | exact c13 p h0.1 | exact c16 p h0.1 | exact c23 p h0.1 | exact c17 p h0.1 | exact c24 p h0.1 | exact c21 p | exact c22 p s h0.1 | exact c25 p h0.1 | fail)) | ((with_reducible show pickE _ _ _); first | refine pickE_intro _ ⟨by omega, by rfl⟩ ?_ | refine pickE_intro _ (by rfl) ?_) | fail); try simp -dsimp -implicitDefEqProofs (maxSteps := 1000000) (disch := first | omega | (simp only [LN]; omega)) only [go_sem, Int.reduceToNat, Int.reducePow, Nat.reducePow, Int.reduceAdd, Int.reduceMul, Int.reduceSub, Int.reduceNeg, Nat.reduceAdd, Nat.reduceMul, Nat.reduceSub, Nat.reduceEqDiff, Nat.reduceLT, Nat.reduceLeDiff])
    | fail)
  all_goals first | rfl | (simp; done) | simp_all
end Go.Proofs.YtkmobahedfdikaaDoor
