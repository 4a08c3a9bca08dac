/- Contracts of functions of this program, and the plain facts that they rest on. No conditions. -/
import Derived.Test.YtlkffmmgcoiniaaDoorD34
set_option linter.unusedSimpArgs false
set_option linter.unusedVariables false
namespace Go.Proofs.YtlkffmmgcoiniaaDoor
open Go Go.Ab
attribute [local irreducible] callK callF loopQ vstep vskip pickE hideP
open Go.RowKit
set_option maxRecDepth 100000
attribute [local go_sem] eF rF eS eP eX rX eQ eL
attribute [local irreducible] textX slotAt
set_option maxRecDepth 100000 in
set_option maxHeartbeats 4000000 in
theorem c11 (x : X) (hr : Rd x) : PCalls Tryd.prog 11 [eX x] (.v (.bool true)) := by
  refine pcalls_of (E := E) (fn := Tryd.f11) 99 [.tmp 2] rfl rfl rfl rfl (by decide) rfl ?_
  have hlen := hr.len
  by_cases hgx : greatM x = true
  · repeat' (first
      | (with_reducible first | refine r_seq ?_ | refine r_block ?_ | refine fork_not ?_ | refine fork_and ?_ | refine fork_or ?_ | refine chk_ok (by kernel_rfl) ?_)
      | ((with_reducible first | refine fork_dec ?_ ?_ | refine fork_eq ?_ ?_ | refine fork_ne ?_ ?_ | refine fork_intro ?_ ?_) <;> intro h <;> try (exfalso; first | omega | exact h rfl | (revert h; decide) | (cases h; done)))
      | ((with_reducible show False); omega)
      | ((first | (with_reducible first | refine r_exit ?_ | refine r_skip ?_ | refine r_cond ?_ | refine r_region ?_ | show VX _ _ _ _ _ _ _ | show vstep _ _ _ _ _ | show vskip _ _ _ | show withV _ _) | ((with_reducible show endA _ _ _ _ _ _ _); simp -implicitDefEqProofs only [endA])); simp -dsimp -implicitDefEqProofs (maxSteps := 1000000) (disch := first | omega | (simp only [LN, hgx]; omega)) only [go_sem, Int.reduceToNat, Int.reducePow, Nat.reducePow, Int.reduceAdd, Int.reduceMul, Int.reduceSub, Int.reduceNeg, Nat.reduceAdd, Nat.reduceMul, Nat.reduceSub, Nat.reduceEqDiff, Nat.reduceLT, Nat.reduceLeDiff, hgx])
      | ((first | (with_reducible refine r_ret ?_) | (with_reducible refine pick_viewG default (by first | omega | (simp only [LN, hgx]; omega)) (by first | omega | (simp only [LN, hgx]; omega)) ?_) | (with_reducible refine pick_own default (by first | omega | (simp only [LN, hgx]; omega)) ?_) | (with_reducible refine And.intro (by first | decide | omega | assumption | (simp only [LN, hgx]; omega)) ?_) | ((with_reducible apply callK_pure); (first | exact c12 | exact c13 x hlen | fail)) | ((with_reducible apply callF_lend); (first | exact c12 | exact c13 x hlen | fail); rfl) | ((with_reducible apply callF_go); (first | exact c12 | exact c13 x hlen | fail)) | ((with_reducible show pickE _ _ _); first | refine pickE_intro _ ⟨by omega, by rfl⟩ ?_ | refine pickE_intro _ (by rfl) ?_) | fail); try simp -dsimp -implicitDefEqProofs (maxSteps := 1000000) (disch := first | omega | (simp only [LN, hgx]; omega)) only [go_sem, Int.reduceToNat, Int.reducePow, Nat.reducePow, Int.reduceAdd, Int.reduceMul, Int.reduceSub, Int.reduceNeg, Nat.reduceAdd, Nat.reduceMul, Nat.reduceSub, Nat.reduceEqDiff, Nat.reduceLT, Nat.reduceLeDiff, hgx])
      | fail)
    all_goals first | rfl | omega | (simp; done) | trace_state
  have hgx : greatM x = false := by simpa using hgx
  obtain ⟨g1, g2, g3⟩ := greatM_f hgx
  by_cases hex : newE x = 0
  · have G := good_of hex
    have hlay := G.lay
    have hsl := slotsTo_len x.fs x.fs.length
    have ht := c32G G (by omega)
    have hp := c33T G hex g1
    rw [hlay] at hp
    have htl := textX_len G
    repeat' (first
      | (with_reducible first | refine r_seq ?_ | refine r_block ?_ | refine fork_not ?_ | refine fork_and ?_ | refine fork_or ?_ | refine chk_ok (by kernel_rfl) ?_)
      | ((with_reducible first | refine fork_dec ?_ ?_ | refine fork_eq ?_ ?_ | refine fork_ne ?_ ?_ | refine fork_intro ?_ ?_) <;> intro h <;> try (exfalso; first | omega | exact h rfl | (revert h; decide) | (cases h; done)))
      | ((with_reducible show False); omega)
      | ((first | (with_reducible first | refine r_exit ?_ | refine r_skip ?_ | refine r_cond ?_ | refine r_region ?_ | show VX _ _ _ _ _ _ _ | show vstep _ _ _ _ _ | show vskip _ _ _ | show withV _ _) | ((with_reducible show endA _ _ _ _ _ _ _); simp -implicitDefEqProofs only [endA])); simp -dsimp -implicitDefEqProofs (maxSteps := 1000000) (disch := first | omega | (simp only [LN, hgx, hex, hlay, hsl]; omega)) only [go_sem, Int.reduceToNat, Int.reducePow, Nat.reducePow, Int.reduceAdd, Int.reduceMul, Int.reduceSub, Int.reduceNeg, Nat.reduceAdd, Nat.reduceMul, Nat.reduceSub, Nat.reduceEqDiff, Nat.reduceLT, Nat.reduceLeDiff, hgx, hex, hlay, hsl])
      | ((first | (with_reducible refine r_ret ?_) | (with_reducible refine pick_viewG default (by first | omega | (simp only [LN, hgx, hex, hlay, hsl]; omega)) (by first | omega | (simp only [LN, hgx, hex, hlay, hsl]; omega)) ?_) | (with_reducible refine pick_own default (by first | omega | (simp only [LN, hgx, hex, hlay, hsl]; omega)) ?_) | (with_reducible refine And.intro (by first | decide | omega | assumption | (simp only [LN, hgx, hex, hlay, hsl]; omega)) ?_) | ((with_reducible apply callK_pure); (first | exact c12 | exact c13 x hlen | exact c14 x (by omega) hr.ty | exact c16 x (by omega) hr.ty | exact ht | exact hp | exact c34 x G (by omega) | exact c21 ⟨x.nm, x.ver, slotsTo x.fs x.fs.length, (posTo x.fs x.fs.length).1 + 1⟩ | exact c22 ⟨x.nm, x.ver, slotsTo x.fs x.fs.length, (posTo x.fs x.fs.length).1 + 1⟩ | exact c20 ⟨x.nm, x.ver, slotsTo x.fs x.fs.length, (posTo x.fs x.fs.length).1 + 1⟩ | exact c17 ⟨x.nm, x.ver, slotsTo x.fs x.fs.length, (posTo x.fs x.fs.length).1 + 1⟩ (by simp only []; omega) | fail)) | ((with_reducible apply callF_lend); (first | exact c12 | exact c13 x hlen | exact c14 x (by omega) hr.ty | exact c16 x (by omega) hr.ty | exact ht | exact hp | exact c34 x G (by omega) | exact c21 ⟨x.nm, x.ver, slotsTo x.fs x.fs.length, (posTo x.fs x.fs.length).1 + 1⟩ | exact c22 ⟨x.nm, x.ver, slotsTo x.fs x.fs.length, (posTo x.fs x.fs.length).1 + 1⟩ | exact c20 ⟨x.nm, x.ver, slotsTo x.fs x.fs.length, (posTo x.fs x.fs.length).1 + 1⟩ | exact c17 ⟨x.nm, x.ver, slotsTo x.fs x.fs.length, (posTo x.fs x.fs.length).1 + 1⟩ (by simp only []; omega) | fail); rfl) | ((with_reducible apply callF_go); (first | exact c12 | exact c13 x hlen | exact c14 x (by omega) hr.ty | exact c16 x (by omega) hr.ty | exact ht | exact hp | exact c34 x G (by omega) | exact c21 ⟨x.nm, x.ver, slotsTo x.fs x.fs.length, (posTo x.fs x.fs.length).1 + 1⟩ | exact c22 ⟨x.nm, x.ver, slotsTo x.fs x.fs.length, (posTo x.fs x.fs.length).1 + 1⟩ | exact c20 ⟨x.nm, x.ver, slotsTo x.fs x.fs.length, (posTo x.fs x.fs.length).1 + 1⟩ | exact c17 ⟨x.nm, x.ver, slotsTo x.fs x.fs.length, (posTo x.fs x.fs.length).1 + 1⟩ (by simp only []; omega) | fail)) | ((with_reducible show pickE _ _ _); first | refine pickE_intro _ ⟨by omega, by rfl⟩ ?_ | refine pickE_intro _ (by rfl) ?_) | fail); try simp -dsimp -implicitDefEqProofs (maxSteps := 1000000) (disch := first | omega | (simp only [LN, hgx, hex, hlay, hsl]; omega)) only [go_sem, Int.reduceToNat, Int.reducePow, Nat.reducePow, Int.reduceAdd, Int.reduceMul, Int.reduceSub, Int.reduceNeg, Nat.reduceAdd, Nat.reduceMul, Nat.reduceSub, Nat.reduceEqDiff, Nat.reduceLT, Nat.reduceLeDiff, hgx, hex, hlay, hsl])
      | fail)
    all_goals try omega
    all_goals try contradiction
    all_goals
      refine r_loopA (α := Nat) [7, 8, 85] (fun i b => [(86, aI i)]) (fun i b => []) (fun i => []) (fun i => i ≤ x.fs.length) (fun i => x.fs.length - i) (0) ?h0_1 ?hs0_1 ?I_1 ?hI_1 ?round_1
      case hI_1 => intro x; (simp -dsimp -implicitDefEqProofs (maxSteps := 1000000) (disch := first | omega | (simp only [LN]; omega)) only [go_sem, Int.reduceToNat, Int.reducePow, Nat.reducePow, Int.reduceAdd, Int.reduceMul, Int.reduceSub, Int.reduceNeg, Nat.reduceAdd, Nat.reduceMul, Nat.reduceSub, Nat.reduceEqDiff, Nat.reduceLT, Nat.reduceLeDiff]) <;> exact rfl
      case hs0_1 => refine wk_auto ?_; (simp -dsimp -implicitDefEqProofs (maxSteps := 1000000) (disch := first | omega | (simp only [LN]; omega)) only [go_sem, Int.reduceToNat, Int.reducePow, Nat.reducePow, Int.reduceAdd, Int.reduceMul, Int.reduceSub, Int.reduceNeg, Nat.reduceAdd, Nat.reduceMul, Nat.reduceSub, Nat.reduceEqDiff, Nat.reduceLT, Nat.reduceLeDiff]) <;> (try omega)
      case h0_1 => exact Nat.zero_le _
      case round_1 =>
        intro i hi
        by_cases hi2 : i < x.fs.length
        · have hsg := slotsTo_get x.fs hi2
          obtain ⟨s, hs⟩ : ∃ s, slotAt x.fs i = s := ⟨_, rfl⟩
          rw [hs] at hsg
          repeat' (first
            | (with_reducible first | refine r_seq ?_ | refine r_block ?_ | refine fork_not ?_ | refine fork_and ?_ | refine fork_or ?_ | refine chk_ok (by kernel_rfl) ?_)
            | ((with_reducible first | refine fork_dec ?_ ?_ | refine fork_eq ?_ ?_ | refine fork_ne ?_ ?_ | refine fork_intro ?_ ?_) <;> intro h <;> try (exfalso; first | omega | exact h rfl | (revert h; decide) | (cases h; done)))
            | ((with_reducible show False); omega)
            | ((first | (with_reducible first | refine r_exit ?_ | refine r_skip ?_ | refine r_cond ?_ | refine r_region ?_ | show VX _ _ _ _ _ _ _ | show vstep _ _ _ _ _ | show vskip _ _ _ | show withV _ _) | ((with_reducible show endA _ _ _ _ _ _ _); simp -implicitDefEqProofs only [endA])); simp -dsimp -implicitDefEqProofs (maxSteps := 1000000) (disch := first | omega | (simp only [LN, hsg, hsl]; omega)) only [go_sem, Int.reduceToNat, Int.reducePow, Nat.reducePow, Int.reduceAdd, Int.reduceMul, Int.reduceSub, Int.reduceNeg, Nat.reduceAdd, Nat.reduceMul, Nat.reduceSub, Nat.reduceEqDiff, Nat.reduceLT, Nat.reduceLeDiff, hsg, hsl])
            | ((first | (with_reducible refine r_ret ?_) | (with_reducible refine pick_viewG default (by first | omega | (simp only [LN, hsg, hsl]; omega)) (by first | omega | (simp only [LN, hsg, hsl]; omega)) ?_) | (with_reducible refine pick_own default (by first | omega | (simp only [LN, hsg, hsl]; omega)) ?_) | (with_reducible refine And.intro (by first | decide | omega | assumption | (simp only [LN, hsg, hsl]; omega)) ?_) | ((with_reducible show pickE _ _ _); first | refine pickE_intro _ ⟨by omega, by rfl⟩ ?_ | refine pickE_intro _ (by rfl) ?_) | fail); try simp -dsimp -implicitDefEqProofs (maxSteps := 1000000) (disch := first | omega | (simp only [LN, hsg, hsl]; omega)) only [go_sem, Int.reduceToNat, Int.reducePow, Nat.reducePow, Int.reduceAdd, Int.reduceMul, Int.reduceSub, Int.reduceNeg, Nat.reduceAdd, Nat.reduceMul, Nat.reduceSub, Nat.reduceEqDiff, Nat.reduceLT, Nat.reduceLeDiff, hsg, hsl])
            | fail)
          all_goals first | rfl | omega | (refine loopQ_next (i + 1) ?_ ?_ ?_; (omega); (show _ < _; omega); (simp -dsimp -implicitDefEqProofs (maxSteps := 1000000) (disch := first | omega | (simp only [LN, hsl]; omega)) only [go_sem, Int.reduceToNat, Int.reducePow, Nat.reducePow, Int.reduceAdd, Int.reduceMul, Int.reduceSub, Int.reduceNeg, Nat.reduceAdd, Nat.reduceMul, Nat.reduceSub, Nat.reduceEqDiff, Nat.reduceLT, Nat.reduceLeDiff, hsl]; try trivial)) | (simp at *; done) | trace_state
        · repeat' (first
            | (with_reducible first | refine r_seq ?_ | refine r_block ?_ | refine fork_not ?_ | refine fork_and ?_ | refine fork_or ?_ | refine chk_ok (by kernel_rfl) ?_)
            | ((with_reducible first | refine fork_dec ?_ ?_ | refine fork_eq ?_ ?_ | refine fork_ne ?_ ?_ | refine fork_intro ?_ ?_) <;> intro h <;> try (exfalso; first | omega | exact h rfl | (revert h; decide) | (cases h; done)))
            | ((with_reducible show False); omega)
            | ((first | (with_reducible first | refine r_exit ?_ | refine r_skip ?_ | refine r_cond ?_ | refine r_region ?_ | show VX _ _ _ _ _ _ _ | show vstep _ _ _ _ _ | show vskip _ _ _ | show withV _ _) | ((with_reducible show endA _ _ _ _ _ _ _); simp -implicitDefEqProofs only [endA])); simp -dsimp -implicitDefEqProofs (maxSteps := 1000000) (disch := first | omega | (simp only [LN, hsl]; omega)) only [go_sem, Int.reduceToNat, Int.reducePow, Nat.reducePow, Int.reduceAdd, Int.reduceMul, Int.reduceSub, Int.reduceNeg, Nat.reduceAdd, Nat.reduceMul, Nat.reduceSub, Nat.reduceEqDiff, Nat.reduceLT, Nat.reduceLeDiff, hsl])
            | ((first | (with_reducible refine r_ret ?_) | (with_reducible refine pick_viewG default (by first | omega | (simp only [LN, hsl]; omega)) (by first | omega | (simp only [LN, hsl]; omega)) ?_) | (with_reducible refine pick_own default (by first | omega | (simp only [LN, hsl]; omega)) ?_) | (with_reducible refine And.intro (by first | decide | omega | assumption | (simp only [LN, hsl]; omega)) ?_) | ((with_reducible show pickE _ _ _); first | refine pickE_intro _ ⟨by omega, by rfl⟩ ?_ | refine pickE_intro _ (by rfl) ?_) | fail); try simp -dsimp -implicitDefEqProofs (maxSteps := 1000000) (disch := first | omega | (simp only [LN, hsl]; omega)) only [go_sem, Int.reduceToNat, Int.reducePow, Nat.reducePow, Int.reduceAdd, Int.reduceMul, Int.reduceSub, Int.reduceNeg, Nat.reduceAdd, Nat.reduceMul, Nat.reduceSub, Nat.reduceEqDiff, Nat.reduceLT, Nat.reduceLeDiff, hsl])
            | fail)
          all_goals first | rfl | omega | (simp; done) | trace_state
  · have hlay := lay_bad hex
    repeat' (first
      | (with_reducible first | refine r_seq ?_ | refine r_block ?_ | refine fork_not ?_ | refine fork_and ?_ | refine fork_or ?_ | refine chk_ok (by kernel_rfl) ?_)
      | ((with_reducible first | refine fork_dec ?_ ?_ | refine fork_eq ?_ ?_ | refine fork_ne ?_ ?_ | refine fork_intro ?_ ?_) <;> intro h <;> try (exfalso; first | omega | exact h rfl | (revert h; decide) | (cases h; done)))
      | ((with_reducible show False); omega)
      | ((first | (with_reducible first | refine r_exit ?_ | refine r_skip ?_ | refine r_cond ?_ | refine r_region ?_ | show VX _ _ _ _ _ _ _ | show vstep _ _ _ _ _ | show vskip _ _ _ | show withV _ _) | ((with_reducible show endA _ _ _ _ _ _ _); simp -implicitDefEqProofs only [endA])); simp -dsimp -implicitDefEqProofs (maxSteps := 1000000) (disch := first | omega | (simp only [LN, hgx, hlay]; omega)) only [go_sem, Int.reduceToNat, Int.reducePow, Nat.reducePow, Int.reduceAdd, Int.reduceMul, Int.reduceSub, Int.reduceNeg, Nat.reduceAdd, Nat.reduceMul, Nat.reduceSub, Nat.reduceEqDiff, Nat.reduceLT, Nat.reduceLeDiff, hgx, hlay])
      | ((first | (with_reducible refine r_ret ?_) | (with_reducible refine pick_viewG default (by first | omega | (simp only [LN, hgx, hlay]; omega)) (by first | omega | (simp only [LN, hgx, hlay]; omega)) ?_) | (with_reducible refine pick_own default (by first | omega | (simp only [LN, hgx, hlay]; omega)) ?_) | (with_reducible refine And.intro (by first | decide | omega | assumption | (simp only [LN, hgx, hlay]; omega)) ?_) | ((with_reducible apply callK_pure); (first | exact c12 | exact c13 x hlen | exact c14 x (by omega) hr.ty | exact c16 x (by omega) hr.ty | exact c15 x g1 g2 g3 | exact c32z ⟨[], 0, [], 0⟩ rfl | fail)) | ((with_reducible apply callF_lend); (first | exact c12 | exact c13 x hlen | exact c14 x (by omega) hr.ty | exact c16 x (by omega) hr.ty | exact c15 x g1 g2 g3 | exact c32z ⟨[], 0, [], 0⟩ rfl | fail); rfl) | ((with_reducible apply callF_go); (first | exact c12 | exact c13 x hlen | exact c14 x (by omega) hr.ty | exact c16 x (by omega) hr.ty | exact c15 x g1 g2 g3 | exact c32z ⟨[], 0, [], 0⟩ rfl | fail)) | ((with_reducible show pickE _ _ _); first | refine pickE_intro _ ⟨by omega, by rfl⟩ ?_ | refine pickE_intro _ (by rfl) ?_) | fail); try simp -dsimp -implicitDefEqProofs (maxSteps := 1000000) (disch := first | omega | (simp only [LN, hgx, hlay]; omega)) only [go_sem, Int.reduceToNat, Int.reducePow, Nat.reducePow, Int.reduceAdd, Int.reduceMul, Int.reduceSub, Int.reduceNeg, Nat.reduceAdd, Nat.reduceMul, Nat.reduceSub, Nat.reduceEqDiff, Nat.reduceLT, Nat.reduceLeDiff, hgx, hlay])
      | fail)
    all_goals first | rfl | omega | (simp [hex]; done) | trace_state
end Go.Proofs.YtlkffmmgcoiniaaDoor
