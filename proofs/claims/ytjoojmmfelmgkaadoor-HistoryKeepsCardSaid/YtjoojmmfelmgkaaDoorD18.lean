/- Contracts of functions of this program, and the plain facts that they rest on. No conditions. -/
import Derived.Test.YtjoojmmfelmgkaaDoorD17
set_option linter.unusedSimpArgs false
set_option linter.unusedVariables false
namespace Go.Proofs.YtjoojmmfelmgkaaDoor
open Go Go.Ab
attribute [local irreducible] callK callF loopQ vstep vskip pickE hideP
set_option maxRecDepth 100000
attribute [local go_sem] eC rC eE hc hP hW hX oW oP sR oH newC eS
attribute [local irreducible] doH playH h0 playN restM
theorem rest_len {l : List S} (hr : ∀ s, s ∈ l → RngS s) {n : Nat} (hn : n ≤ 1000) : ∀ m j, j + m ≤ n → (restM l j m).length ≤ 201 * m
  | 0, j, _ => by unfold restM; simp
  | m + 1, j, h => by
    have ih := rest_len hr hn m (j + 1) (by omega)
    have hl := play_len l j
    unfold restM
    cases hL : lineM (playH l j) (l.getD j default) with
    | none => simp only [lineS, List.nil_append]; omega
    | some line =>
      have := (a39 (playH l j) (l.getD j default) line (play_inv l j) (getD_rng hr j) hL (by omega) (by omega) (by omega)).1
      simp only [lineS, List.length_append, List.length_cons, List.length_nil]; omega
theorem cons_ne (a : List UInt8) (b : List UInt8) : ¬ (a ++ 10 :: b) = [] := by simp
set_option maxRecDepth 100000 in
set_option maxHeartbeats 4000000 in
theorem a25 (l : List S) (n : Nat) (hr : ∀ s, s ∈ l → RngS s) (hn : n ≤ 1000) : ACalls Tryd.prog 25 [.p (.v (.string (bs (restM l 0 n))))] [] (.tup [.loc 0 0, .p (.v (.int .i64 0)), .p (.v (.int .i64 0))]) [oH (playH l n) 1 2, .arr 2 ((playH l n).ev.map eE), .arr 11 ((playH l n).cl.map eC)] := by
  refine acalls_of (E := E) (fn := Tryd.f25) 31 [.tmp 2, .tmp 3, .tmp 4] rfl rfl rfl rfl (by decide) rfl rfl ?_
  repeat' (first
    | (with_reducible first | refine r_seq ?_ | refine r_block ?_ | refine fork_not ?_ | refine fork_and ?_ | refine fork_or ?_ | refine chk_ok (by kernel_rfl) ?_)
    | ((with_reducible first | refine fork_dec ?_ ?_ | refine fork_eq ?_ ?_ | refine fork_ne ?_ ?_ | refine fork_intro ?_ ?_) <;> intro h)
    | ((with_reducible show False); omega)
    | ((first | (with_reducible first | refine r_exit ?_ | refine r_skip ?_ | refine r_cond ?_ | refine r_region ?_ | show VX _ _ _ _ _ _ _ | show vstep _ _ _ _ _ | show vskip _ _ _ | show withV _ _) | ((with_reducible show endA _ _ _ _ _ _ _); simp -implicitDefEqProofs only [endA])); simp -dsimp -implicitDefEqProofs (maxSteps := 1000000) (disch := first | omega | (simp only [LN]; omega)) only [go_sem, Int.reduceToNat, Int.reducePow, Nat.reducePow, Int.reduceAdd, Int.reduceMul, Int.reduceSub, Int.reduceNeg, Nat.reduceAdd, Nat.reduceMul, Nat.reduceSub, Nat.reduceEqDiff, Nat.reduceLT, Nat.reduceLeDiff])
    | ((first | (with_reducible refine r_ret ?_) | (with_reducible refine pick_viewG default (by first | omega | (simp only [LN]; omega)) (by first | omega | (simp only [LN]; omega)) ?_) | (with_reducible refine pick_own default (by first | omega | (simp only [LN]; omega)) ?_) | (with_reducible refine And.intro (by first | decide | omega | assumption | (simp only [LN]; omega)) ?_) | (with_reducible first | apply callK_lent | apply callF_lent | apply hideP_own) | ((with_reducible apply callA_go); (first | exact a10 | fail)) | ((with_reducible show pickE _ _ _); first | refine pickE_intro _ ⟨by omega, by rfl⟩ ?_ | refine pickE_intro _ (by rfl) ?_) | fail); try simp -dsimp -implicitDefEqProofs (maxSteps := 1000000) (disch := first | omega | (simp only [LN]; omega)) only [go_sem, Int.reduceToNat, Int.reducePow, Nat.reducePow, Int.reduceAdd, Int.reduceMul, Int.reduceSub, Int.reduceNeg, Nat.reduceAdd, Nat.reduceMul, Nat.reduceSub, Nat.reduceEqDiff, Nat.reduceLT, Nat.reduceLeDiff])
    | fail)
  refine r_loopA (α := Nat × Nat) [5] (fun q b => [(0, .p (.v (.string (bs (restM l q.1 (n - q.1)))))), (6, aI q.2)]) (fun q b => [(5, oH (playH l q.1) b (b + 1))]) (fun q => [.arr 2 ((playH l q.1).ev.map eE), .arr 11 ((playH l q.1).cl.map eC)]) (fun q => q.1 ≤ n ∧ q.2 ≤ q.1 + 1) (fun q => n - q.1) ((0, 1)) ?h0_1 ?hs0_1 ?I_1 ?hI_1 ?round_1
  case hI_1 => intro x; (simp -dsimp -implicitDefEqProofs (maxSteps := 1000000) (disch := first | omega | (simp only [LN]; omega)) only [go_sem, Int.reduceToNat, Int.reducePow, Nat.reducePow, Int.reduceAdd, Int.reduceMul, Int.reduceSub, Int.reduceNeg, Nat.reduceAdd, Nat.reduceMul, Nat.reduceSub, Nat.reduceEqDiff, Nat.reduceLT, Nat.reduceLeDiff]) <;> exact rfl
  case hs0_1 => refine wk_auto ?_; (simp -dsimp -implicitDefEqProofs (maxSteps := 1000000) (disch := first | omega | (simp only [LN, play_0, h0_ev, h0_cl, h0_era, Nat.sub_zero]; omega)) only [go_sem, Int.reduceToNat, Int.reducePow, Nat.reducePow, Int.reduceAdd, Int.reduceMul, Int.reduceSub, Int.reduceNeg, Nat.reduceAdd, Nat.reduceMul, Nat.reduceSub, Nat.reduceEqDiff, Nat.reduceLT, Nat.reduceLeDiff, play_0, h0_ev, h0_cl, h0_era, Nat.sub_zero]) <;> (try omega)
  case h0_1 => exact ⟨Nat.zero_le _, Nat.le_refl _⟩
  case round_1 =>
    rintro ⟨j, c⟩ ⟨h1, h2⟩
    dsimp only at h1 h2
    rcases skip l (n - j) j with ⟨e1, e2⟩ | ⟨j', m', line, g1, g2, g3, g4, g5⟩
    · have e3 : playH l n = playH l j := by rw [← e2, show j + (n - j) = n by omega]
      repeat' (first
        | (with_reducible first | refine r_seq ?_ | refine r_block ?_ | refine fork_not ?_ | refine fork_and ?_ | refine fork_or ?_ | refine chk_ok (by kernel_rfl) ?_)
        | ((with_reducible first | refine fork_dec ?_ ?_ | refine fork_eq ?_ ?_ | refine fork_ne ?_ ?_ | refine fork_intro ?_ ?_) <;> intro h <;> try (exfalso; first | omega | exact h rfl | (revert h; decide) | (cases h; done)))
        | ((with_reducible show False); omega)
        | ((first | (with_reducible first | refine r_exit ?_ | refine r_skip ?_ | refine r_cond ?_ | refine r_region ?_ | show VX _ _ _ _ _ _ _ | show vstep _ _ _ _ _ | show vskip _ _ _ | show withV _ _) | ((with_reducible show endA _ _ _ _ _ _ _); simp -implicitDefEqProofs only [endA])); simp -dsimp -implicitDefEqProofs (maxSteps := 1000000) (disch := first | omega | (simp only [LN, e1, e3]; omega)) only [go_sem, Int.reduceToNat, Int.reducePow, Nat.reducePow, Int.reduceAdd, Int.reduceMul, Int.reduceSub, Int.reduceNeg, Nat.reduceAdd, Nat.reduceMul, Nat.reduceSub, Nat.reduceEqDiff, Nat.reduceLT, Nat.reduceLeDiff, e1, e3])
        | ((first | (with_reducible refine r_ret ?_) | (with_reducible refine pick_viewG default (by first | omega | (simp only [LN, e1, e3]; omega)) (by first | omega | (simp only [LN, e1, e3]; omega)) ?_) | (with_reducible refine pick_own default (by first | omega | (simp only [LN, e1, e3]; omega)) ?_) | (with_reducible refine And.intro (by first | decide | omega | assumption | (simp only [LN, e1, e3]; omega)) ?_) | ((with_reducible show pickE _ _ _); first | refine pickE_intro _ ⟨by omega, by rfl⟩ ?_ | refine pickE_intro _ (by rfl) ?_) | fail); try simp -dsimp -implicitDefEqProofs (maxSteps := 1000000) (disch := first | omega | (simp only [LN, e1, e3]; omega)) only [go_sem, Int.reduceToNat, Int.reducePow, Nat.reducePow, Int.reduceAdd, Int.reduceMul, Int.reduceSub, Int.reduceNeg, Nat.reduceAdd, Nat.reduceMul, Nat.reduceSub, Nat.reduceEqDiff, Nat.reduceLT, Nat.reduceLeDiff, e1, e3])
        | fail)
      all_goals first | omega | (exact absurd rfl h) | trace_state
    · have hl := play_len l j'
      have hm : m' = n - (j' + 1) := by omega
      subst hm
      have hrl := rest_len hr hn (n - (j' + 1)) (j' + 1) (by omega)
      obtain ⟨k1, k2⟩ := a39 (playH l j') (l.getD j' default) line (play_inv l j') (getD_rng hr j') g4 (by omega) (by omega) (by omega)
      repeat' (first
        | (with_reducible first | refine r_seq ?_ | refine r_block ?_ | refine fork_not ?_ | refine fork_and ?_ | refine fork_or ?_ | refine chk_ok (by kernel_rfl) ?_)
        | ((with_reducible first | refine fork_dec ?_ ?_ | refine fork_eq ?_ ?_ | refine fork_ne ?_ ?_ | refine fork_intro ?_ ?_) <;> intro h <;> try (exfalso; first | omega | exact h rfl | (revert h; decide) | (cases h; done)))
        | ((with_reducible show False); omega)
        | ((first | (with_reducible first | refine r_exit ?_ | refine r_skip ?_ | refine r_cond ?_ | refine r_region ?_ | show VX _ _ _ _ _ _ _ | show vstep _ _ _ _ _ | show vskip _ _ _ | show withV _ _) | ((with_reducible show endA _ _ _ _ _ _ _); simp -implicitDefEqProofs only [endA])); simp -dsimp -implicitDefEqProofs (maxSteps := 1000000) (disch := first | omega | (simp only [LN, g3, g5, cons_ne]; omega)) only [go_sem, Int.reduceToNat, Int.reducePow, Nat.reducePow, Int.reduceAdd, Int.reduceMul, Int.reduceSub, Int.reduceNeg, Nat.reduceAdd, Nat.reduceMul, Nat.reduceSub, Nat.reduceEqDiff, Nat.reduceLT, Nat.reduceLeDiff, g3, g5, cons_ne])
        | ((first | (with_reducible refine r_ret ?_) | (with_reducible refine pick_viewG default (by first | omega | (simp only [LN, g3, g5, cons_ne]; omega)) (by first | omega | (simp only [LN, g3, g5, cons_ne]; omega)) ?_) | (with_reducible refine pick_own default (by first | omega | (simp only [LN, g3, g5, cons_ne]; omega)) ?_) | (with_reducible refine And.intro (by first | decide | omega | assumption | (simp only [LN, g3, g5, cons_ne]; omega)) ?_) | ((with_reducible apply callK_pure); (exact c38 line (restM l (j' + 1) (n - (j' + 1))) (line_nl g4) (by omega))) | ((with_reducible apply callF_lend); (exact c38 line (restM l (j' + 1) (n - (j' + 1))) (line_nl g4) (by omega)); rfl) | ((with_reducible apply callF_go); (exact c38 line (restM l (j' + 1) (n - (j' + 1))) (line_nl g4) (by omega))) | (with_reducible first | apply callK_lent | apply callF_lent | apply hideP_own) | ((with_reducible apply callA_go); (first | exact k2 | fail)) | ((with_reducible show pickE _ _ _); first | refine pickE_intro _ ⟨by omega, by rfl⟩ ?_ | refine pickE_intro _ (by rfl) ?_) | fail); try simp -dsimp -implicitDefEqProofs (maxSteps := 1000000) (disch := first | omega | (simp only [LN, g3, g5, cons_ne]; omega)) only [go_sem, Int.reduceToNat, Int.reducePow, Nat.reducePow, Int.reduceAdd, Int.reduceMul, Int.reduceSub, Int.reduceNeg, Nat.reduceAdd, Nat.reduceMul, Nat.reduceSub, Nat.reduceEqDiff, Nat.reduceLT, Nat.reduceLeDiff, g3, g5, cons_ne])
        | fail)
      all_goals first
        | (refine loopQ_next ((j' + 1, c + 1)) ?_ ?_ ?_; ((dsimp only; omega)); (show _ < _; omega); (simp -dsimp -implicitDefEqProofs (maxSteps := 1000000) (disch := first | omega | (simp only [LN, play_s]; omega)) only [go_sem, Int.reduceToNat, Int.reducePow, Nat.reducePow, Int.reduceAdd, Int.reduceMul, Int.reduceSub, Int.reduceNeg, Nat.reduceAdd, Nat.reduceMul, Nat.reduceSub, Nat.reduceEqDiff, Nat.reduceLT, Nat.reduceLeDiff, play_s]; try trivial))
        | omega
        | trace_state
end Go.Proofs.YtjoojmmfelmgkaaDoor
