/- Contracts of functions of this program, and the plain facts that they rest on. No conditions. -/
import Derived.Test.YtlkffmmgcoiniaaDoorD3
set_option linter.unusedSimpArgs false
set_option linter.unusedVariables false
namespace Go.Proofs.YtlkffmmgcoiniaaDoor
open Go Go.Ab
attribute [local irreducible] callK callF loopQ vstep vskip pickE hideP
/-- A layout to be made. -/
structure X where
  nm : List UInt8
  ver : Int
  fs : List F
def eX (x : X) : PV := .agg [.v (.string (bs x.nm)), .v (.int .i64 x.ver), .view 3 (x.fs.map eF)]
def rX (x : X) : PV := .agg [.v (.string (bs x.nm)), .v (.int .i64 x.ver), .view 3 (x.fs.map rF)]
attribute [local go_sem] eF rF eS eP eX rX eQ
theorem c40n (t : Int) : PCalls Tryd.prog 40 [.v (.int .i64 t)] (.v (.int .i64 (wN t))) := by rw [← wM_wN]; exact c40 t
theorem plF_step (fs : List F) (i k : Nat) : plF fs i (k + 1) = plF fs i k ++ [plAt fs i k] := rfl
theorem pls_step (fs : List F) (i : Nat) : pls fs (i + 1) = pls fs i ++ plF fs i (fs.getD i default).cnt.toNat := rfl
theorem runP_zero (w : Nat) (p : Nat × Nat) : runP w p 0 = p := if_pos rfl
set_option maxRecDepth 100000 in
set_option maxHeartbeats 4000000 in
theorem c18 (x : X) (hl : x.fs.length ≤ 40) (hc : CntOk x.fs) : PCalls Tryd.prog 18 [rX x] (.view 5 ((pls x.fs x.fs.length).map eQ)) := by
  refine pcalls_of (E := E) (fn := Tryd.f18) 52 [.tmp 2] rfl rfl rfl rfl (by decide) rfl ?_
  repeat' (first
    | (with_reducible first | refine r_seq ?_ | refine r_block ?_ | refine fork_not ?_ | refine fork_and ?_ | refine fork_or ?_ | refine chk_ok (by kernel_rfl) ?_)
    | ((with_reducible first | refine fork_dec ?_ ?_ | refine fork_eq ?_ ?_ | refine fork_ne ?_ ?_ | refine fork_intro ?_ ?_) <;> intro h)
    | ((with_reducible show False); omega)
    | ((first | (with_reducible first | refine r_exit ?_ | refine r_skip ?_ | refine r_cond ?_ | refine r_region ?_ | show VX _ _ _ _ _ _ _ | show vstep _ _ _ _ _ | show vskip _ _ _ | show withV _ _) | ((with_reducible show endA _ _ _ _ _ _ _); simp -implicitDefEqProofs only [endA])); simp -dsimp -implicitDefEqProofs (maxSteps := 1000000) (disch := first | omega | (simp only [LN]; omega)) only [go_sem, Int.reduceToNat, Int.reducePow, Nat.reducePow, Int.reduceAdd, Int.reduceMul, Int.reduceSub, Int.reduceNeg, Nat.reduceAdd, Nat.reduceMul, Nat.reduceSub, Nat.reduceEqDiff, Nat.reduceLT, Nat.reduceLeDiff])
    | ((first | (with_reducible refine r_ret ?_) | (with_reducible refine pick_viewG default (by first | omega | (simp only [LN]; omega)) (by first | omega | (simp only [LN]; omega)) ?_) | (with_reducible refine pick_own default (by first | omega | (simp only [LN]; omega)) ?_) | (with_reducible refine And.intro (by first | decide | omega | assumption | (simp only [LN]; omega)) ?_) | ((with_reducible show pickE _ _ _); first | refine pickE_intro _ ⟨by omega, by rfl⟩ ?_ | refine pickE_intro _ (by rfl) ?_) | fail); try simp -dsimp -implicitDefEqProofs (maxSteps := 1000000) (disch := first | omega | (simp only [LN]; omega)) only [go_sem, Int.reduceToNat, Int.reducePow, Nat.reducePow, Int.reduceAdd, Int.reduceMul, Int.reduceSub, Int.reduceNeg, Nat.reduceAdd, Nat.reduceMul, Nat.reduceSub, Nat.reduceEqDiff, Nat.reduceLT, Nat.reduceLeDiff])
    | fail)
  refine r_loopA (α := Nat) [1] (fun i b => [(3, .sl b 5 0 (pls x.fs i).length), (4, aI (posTo x.fs i).1), (5, aI (posTo x.fs i).2), (6, aI i)]) (fun i b => []) (fun i => [.arr 5 ((pls x.fs i).map eQ)]) (fun i => i ≤ x.fs.length) (fun i => x.fs.length - i) (0) ?h0_1 ?hs0_1 ?I_1 ?hI_1 ?round_1
  case hI_1 => intro x; (simp -dsimp -implicitDefEqProofs (maxSteps := 1000000) (disch := first | omega | (simp only [LN]; omega)) only [go_sem, Int.reduceToNat, Int.reducePow, Nat.reducePow, Int.reduceAdd, Int.reduceMul, Int.reduceSub, Int.reduceNeg, Nat.reduceAdd, Nat.reduceMul, Nat.reduceSub, Nat.reduceEqDiff, Nat.reduceLT, Nat.reduceLeDiff]) <;> exact rfl
  case hs0_1 => refine wk_auto ?_; (simp -dsimp -implicitDefEqProofs (maxSteps := 1000000) (disch := first | omega | (simp only [LN, pls, posTo]; omega)) only [go_sem, Int.reduceToNat, Int.reducePow, Nat.reducePow, Int.reduceAdd, Int.reduceMul, Int.reduceSub, Int.reduceNeg, Nat.reduceAdd, Nat.reduceMul, Nat.reduceSub, Nat.reduceEqDiff, Nat.reduceLT, Nat.reduceLeDiff, pls, posTo]) <;> (try omega)
  case h0_1 => exact Nat.zero_le _
  case round_1 =>
    intro i hi
    repeat' (first
      | (with_reducible first | refine r_seq ?_ | refine r_block ?_ | refine fork_not ?_ | refine fork_and ?_ | refine fork_or ?_ | refine chk_ok (by kernel_rfl) ?_)
      | ((with_reducible first | refine fork_dec ?_ ?_ | refine fork_eq ?_ ?_ | refine fork_ne ?_ ?_ | refine fork_intro ?_ ?_) <;> intro h)
      | ((with_reducible show False); omega)
      | ((first | (with_reducible first | refine r_exit ?_ | refine r_skip ?_ | refine r_cond ?_ | refine r_region ?_ | show VX _ _ _ _ _ _ _ | show vstep _ _ _ _ _ | show vskip _ _ _ | show withV _ _) | ((with_reducible show endA _ _ _ _ _ _ _); simp -implicitDefEqProofs only [endA])); simp -dsimp -implicitDefEqProofs (maxSteps := 1000000) (disch := first | omega | (simp only [LN]; omega)) only [go_sem, Int.reduceToNat, Int.reducePow, Nat.reducePow, Int.reduceAdd, Int.reduceMul, Int.reduceSub, Int.reduceNeg, Nat.reduceAdd, Nat.reduceMul, Nat.reduceSub, Nat.reduceEqDiff, Nat.reduceLT, Nat.reduceLeDiff])
      | ((first | (with_reducible refine r_ret ?_) | (with_reducible refine pick_viewG default (by first | omega | (simp only [LN]; omega)) (by first | omega | (simp only [LN]; omega)) ?_) | (with_reducible refine pick_own default (by first | omega | (simp only [LN]; omega)) ?_) | (with_reducible refine And.intro (by first | decide | omega | assumption | (simp only [LN]; omega)) ?_) | ((with_reducible apply callK_pure); (exact c40n _)) | ((with_reducible apply callF_lend); (exact c40n _); rfl) | ((with_reducible apply callF_go); (exact c40n _)) | ((with_reducible show pickE _ _ _); first | refine pickE_intro _ ⟨by omega, by rfl⟩ ?_ | refine pickE_intro _ (by rfl) ?_) | fail); try simp -dsimp -implicitDefEqProofs (maxSteps := 1000000) (disch := first | omega | (simp only [LN]; omega)) only [go_sem, Int.reduceToNat, Int.reducePow, Nat.reducePow, Int.reduceAdd, Int.reduceMul, Int.reduceSub, Int.reduceNeg, Nat.reduceAdd, Nat.reduceMul, Nat.reduceSub, Nat.reduceEqDiff, Nat.reduceLT, Nat.reduceLeDiff])
      | fail)
    · have hci := hc i (by omega)
      have hp := posTo_ok hc i hi
      have hpl := pls_len hc i hi
      refine r_loopA (α := Nat) [1, 6, 7] (fun k b => [(3, .sl b 5 0 (pls x.fs i ++ plF x.fs i k).length), (4, aI (runP (wN (x.fs.getD i default).ty) (posTo x.fs i) k).1), (5, aI (runP (wN (x.fs.getD i default).ty) (posTo x.fs i) k).2), (8, aI k)]) (fun k b => []) (fun k => [.arr 5 ((pls x.fs i ++ plF x.fs i k).map eQ)]) (fun k => (k : Int) ≤ (x.fs.getD i default).cnt) (fun k => (x.fs.getD i default).cnt.toNat - k) (0) ?h0_2 ?hs0_2 ?I_2 ?hI_2 ?round_2
      case hI_2 => intro x; (simp -dsimp -implicitDefEqProofs (maxSteps := 1000000) (disch := first | omega | (simp only [LN]; omega)) only [go_sem, Int.reduceToNat, Int.reducePow, Nat.reducePow, Int.reduceAdd, Int.reduceMul, Int.reduceSub, Int.reduceNeg, Nat.reduceAdd, Nat.reduceMul, Nat.reduceSub, Nat.reduceEqDiff, Nat.reduceLT, Nat.reduceLeDiff]) <;> exact rfl
      case hs0_2 => refine wk_auto ?_; (simp -dsimp -implicitDefEqProofs (maxSteps := 1000000) (disch := first | omega | (simp only [LN, plF, List.append_nil, runP_zero]; omega)) only [go_sem, Int.reduceToNat, Int.reducePow, Nat.reducePow, Int.reduceAdd, Int.reduceMul, Int.reduceSub, Int.reduceNeg, Nat.reduceAdd, Nat.reduceMul, Nat.reduceSub, Nat.reduceEqDiff, Nat.reduceLT, Nat.reduceLeDiff, plF, List.append_nil, runP_zero]) <;> (try omega)
      case h0_2 => show (0 : Int) ≤ _; omega
      case round_2 =>
        intro k hk
        have hr := run_ok (wok (x.fs.getD i default).ty) hp.1 k
        have hn := norm_run (wok (x.fs.getD i default).ty) hp.1 k
        have hs := run_step (wok (x.fs.getD i default).ty) hp.1 k
        have hw := wN_cases (x.fs.getD i default).ty
        have hlen := plF_len x.fs i k
        repeat' (first
          | (with_reducible first | refine r_seq ?_ | refine r_block ?_ | refine fork_not ?_ | refine fork_and ?_ | refine fork_or ?_ | refine chk_ok (by kernel_rfl) ?_)
          | ((with_reducible first | refine fork_dec ?_ ?_ | refine fork_eq ?_ ?_ | refine fork_ne ?_ ?_ | refine fork_intro ?_ ?_) <;> intro h)
          | ((with_reducible show False); omega)
          | ((first | (with_reducible first | refine r_exit ?_ | refine r_skip ?_ | refine r_cond ?_ | refine r_region ?_ | show VX _ _ _ _ _ _ _ | show vstep _ _ _ _ _ | show vskip _ _ _ | show withV _ _) | ((with_reducible show endA _ _ _ _ _ _ _); simp -implicitDefEqProofs only [endA])); simp -dsimp -implicitDefEqProofs (maxSteps := 1000000) (disch := first | omega | (simp only [LN]; omega)) only [go_sem, Int.reduceToNat, Int.reducePow, Nat.reducePow, Int.reduceAdd, Int.reduceMul, Int.reduceSub, Int.reduceNeg, Nat.reduceAdd, Nat.reduceMul, Nat.reduceSub, Nat.reduceEqDiff, Nat.reduceLT, Nat.reduceLeDiff])
          | ((first | (with_reducible refine r_ret ?_) | (with_reducible refine pick_viewG default (by first | omega | (simp only [LN]; omega)) (by first | omega | (simp only [LN]; omega)) ?_) | (with_reducible refine pick_own default (by first | omega | (simp only [LN]; omega)) ?_) | (with_reducible refine And.intro (by first | decide | omega | assumption | (simp only [LN]; omega)) ?_) | ((with_reducible show pickE _ _ _); first | refine pickE_intro _ ⟨by omega, by rfl⟩ ?_ | refine pickE_intro _ (by rfl) ?_) | fail); try simp -dsimp -implicitDefEqProofs (maxSteps := 1000000) (disch := first | omega | (simp only [LN]; omega)) only [go_sem, Int.reduceToNat, Int.reducePow, Nat.reducePow, Int.reduceAdd, Int.reduceMul, Int.reduceSub, Int.reduceNeg, Nat.reduceAdd, Nat.reduceMul, Nat.reduceSub, Nat.reduceEqDiff, Nat.reduceLT, Nat.reduceLeDiff])
          | fail)
        · have e1 : elemP (wN (x.fs.getD i default).ty) (posTo x.fs i) k = ((runP (wN (x.fs.getD i default).ty) (posTo x.fs i) k).1 + 1, 0) := by rw [← hn]; exact if_pos (by omega)
          (refine loopQ_next (k + 1) ?_ ?_ ?_; (show ((k + 1 : Nat) : Int) ≤ _; omega); (show _ < _; omega); (simp -dsimp -implicitDefEqProofs (maxSteps := 1000000) (disch := first | omega | (simp only [LN, plF_step, plAt, hs, e1, List.length_append, List.length_singleton, List.map_append, List.map_cons, List.map_nil, List.append_assoc]; omega)) only [go_sem, Int.reduceToNat, Int.reducePow, Nat.reducePow, Int.reduceAdd, Int.reduceMul, Int.reduceSub, Int.reduceNeg, Nat.reduceAdd, Nat.reduceMul, Nat.reduceSub, Nat.reduceEqDiff, Nat.reduceLT, Nat.reduceLeDiff, plF_step, plAt, hs, e1, List.length_append, List.length_singleton, List.map_append, List.map_cons, List.map_nil, List.append_assoc]; try trivial))
        · have e1 : elemP (wN (x.fs.getD i default).ty) (posTo x.fs i) k = runP (wN (x.fs.getD i default).ty) (posTo x.fs i) k := by rw [← hn]; exact if_neg (by omega)
          (refine loopQ_next (k + 1) ?_ ?_ ?_; (show ((k + 1 : Nat) : Int) ≤ _; omega); (show _ < _; omega); (simp -dsimp -implicitDefEqProofs (maxSteps := 1000000) (disch := first | omega | (simp only [LN, plF_step, plAt, hs, e1, List.length_append, List.length_singleton, List.map_append, List.map_cons, List.map_nil, List.append_assoc]; omega)) only [go_sem, Int.reduceToNat, Int.reducePow, Nat.reducePow, Int.reduceAdd, Int.reduceMul, Int.reduceSub, Int.reduceNeg, Nat.reduceAdd, Nat.reduceMul, Nat.reduceSub, Nat.reduceEqDiff, Nat.reduceLT, Nat.reduceLeDiff, plF_step, plAt, hs, e1, List.length_append, List.length_singleton, List.map_append, List.map_cons, List.map_nil, List.append_assoc]; try trivial))
        · have hk2 : (x.fs.getD i default).cnt.toNat = k := by omega
          have e3 : posTo x.fs (i + 1) = runP (wN (x.fs.getD i default).ty) (posTo x.fs i) k := by rw [posTo, next_run hci.1, hk2]
          (refine loopQ_next (i + 1) ?_ ?_ ?_; (omega); (show _ < _; omega); (simp -dsimp -implicitDefEqProofs (maxSteps := 1000000) (disch := first | omega | (simp only [LN, pls_step, hk2, e3, List.length_append, List.map_append]; omega)) only [go_sem, Int.reduceToNat, Int.reducePow, Nat.reducePow, Int.reduceAdd, Int.reduceMul, Int.reduceSub, Int.reduceNeg, Nat.reduceAdd, Nat.reduceMul, Nat.reduceSub, Nat.reduceEqDiff, Nat.reduceLT, Nat.reduceLeDiff, pls_step, hk2, e3, List.length_append, List.map_append]; try trivial))
    · rw [show x.fs.length = i by omega]
end Go.Proofs.YtlkffmmgcoiniaaDoor
