/- Contracts of functions of this program, and the plain facts that they rest on. No conditions. -/
import Derived.Test.YtlkffmmgcoiniaaDoorD4
set_option linter.unusedSimpArgs false
set_option linter.unusedVariables false
namespace Go.Proofs.YtlkffmmgcoiniaaDoor
open Go Go.Ab
attribute [local irreducible] callK callF loopQ vstep vskip pickE hideP
attribute [local go_sem] eF rF eS eP eX rX eQ
set_option maxRecDepth 100000 in
set_option maxHeartbeats 4000000 in
theorem c23 (x : X) (hl : x.fs.length ≤ 40) (h0 : 1 ≤ x.fs.length) (hc : CntOk x.fs) : PCalls Tryd.prog 23 [rX x] (.v (.int .i64 (((posTo x.fs x.fs.length).1 : Int) + 1))) := by
  refine pcalls_of (E := E) (fn := Tryd.f23) 17 [.tmp 2] rfl rfl rfl rfl (by decide) rfl ?_
  have hpl := pls_len hc x.fs.length (Nat.le_refl _)
  obtain ⟨n, hn⟩ : ∃ n, x.fs.length = n + 1 := ⟨x.fs.length - 1, by omega⟩
  have hlast := pls_last hc (i := n) (by omega)
  rw [← hn] at hlast
  have hpo := posTo_ok hc x.fs.length (Nat.le_refl _)
  have e1 : (((pls x.fs x.fs.length).length : Int) - 1).toNat = (pls x.fs x.fs.length).length - 1 := by omega
  repeat' (first
    | (with_reducible first | refine r_seq ?_ | refine r_block ?_ | refine fork_not ?_ | refine fork_and ?_ | refine fork_or ?_ | refine chk_ok (by kernel_rfl) ?_)
    | ((with_reducible first | refine fork_dec ?_ ?_ | refine fork_eq ?_ ?_ | refine fork_ne ?_ ?_ | refine fork_intro ?_ ?_) <;> intro h)
    | ((with_reducible show False); omega)
    | ((first | (with_reducible first | refine r_exit ?_ | refine r_skip ?_ | refine r_cond ?_ | refine r_region ?_ | show VX _ _ _ _ _ _ _ | show vstep _ _ _ _ _ | show vskip _ _ _ | show withV _ _) | ((with_reducible show endA _ _ _ _ _ _ _); simp -implicitDefEqProofs only [endA])); simp -dsimp -implicitDefEqProofs (maxSteps := 1000000) (disch := first | omega | (simp only [LN, hlast, e1]; omega)) only [go_sem, Int.reduceToNat, Int.reducePow, Nat.reducePow, Int.reduceAdd, Int.reduceMul, Int.reduceSub, Int.reduceNeg, Nat.reduceAdd, Nat.reduceMul, Nat.reduceSub, Nat.reduceEqDiff, Nat.reduceLT, Nat.reduceLeDiff, hlast, e1])
    | ((first | (with_reducible refine r_ret ?_) | (with_reducible refine pick_viewG default (by first | omega | (simp only [LN, hlast, e1]; omega)) (by first | omega | (simp only [LN, hlast, e1]; omega)) ?_) | (with_reducible refine pick_own default (by first | omega | (simp only [LN, hlast, e1]; omega)) ?_) | (with_reducible refine And.intro (by first | decide | omega | assumption | (simp only [LN, hlast, e1]; omega)) ?_) | ((with_reducible apply callK_pure); (exact c18 x hl hc)) | ((with_reducible apply callF_lend); (exact c18 x hl hc); rfl) | ((with_reducible apply callF_go); (exact c18 x hl hc)) | ((with_reducible show pickE _ _ _); first | refine pickE_intro _ ⟨by omega, by rfl⟩ ?_ | refine pickE_intro _ (by rfl) ?_) | fail); try simp -dsimp -implicitDefEqProofs (maxSteps := 1000000) (disch := first | omega | (simp only [LN, hlast, e1]; omega)) only [go_sem, Int.reduceToNat, Int.reducePow, Nat.reducePow, Int.reduceAdd, Int.reduceMul, Int.reduceSub, Int.reduceNeg, Nat.reduceAdd, Nat.reduceMul, Nat.reduceSub, Nat.reduceEqDiff, Nat.reduceLT, Nat.reduceLeDiff, hlast, e1])
    | fail)
  all_goals first | omega | trace_state
theorem take_step {l : List F} {i : Nat} (h : i < l.length) : l.take (i + 1) = l.take i ++ [l.getD i default] := by
  rw [List.take_add_one, List.getD_eq_getElem?_getD, List.getElem?_eq_getElem h]; rfl
set_option maxRecDepth 100000 in
set_option maxHeartbeats 4000000 in
theorem c16 (x : X) (hl : x.fs.length ≤ 1000000) (ht : ∀ i, i < x.fs.length → 0 ≤ (x.fs.getD i default).ty ∧ (x.fs.getD i default).ty < 256) : PCalls Tryd.prog 16 [eX x] (rX x) := by
  refine pcalls_of (E := E) (fn := Tryd.f16) 43 [.cell 2 36] rfl rfl rfl rfl (by decide) rfl ?_
  repeat' (first
    | (with_reducible first | refine r_seq ?_ | refine r_block ?_ | refine fork_not ?_ | refine fork_and ?_ | refine fork_or ?_ | refine chk_ok (by kernel_rfl) ?_)
    | ((with_reducible first | refine fork_dec ?_ ?_ | refine fork_eq ?_ ?_ | refine fork_ne ?_ ?_ | refine fork_intro ?_ ?_) <;> intro h)
    | ((with_reducible show False); omega)
    | ((first | (with_reducible first | refine r_exit ?_ | refine r_skip ?_ | refine r_cond ?_ | refine r_region ?_ | show VX _ _ _ _ _ _ _ | show vstep _ _ _ _ _ | show vskip _ _ _ | show withV _ _) | ((with_reducible show endA _ _ _ _ _ _ _); simp -implicitDefEqProofs only [endA])); simp -dsimp -implicitDefEqProofs (maxSteps := 1000000) (disch := first | omega | (simp only [LN]; omega)) only [go_sem, Int.reduceToNat, Int.reducePow, Nat.reducePow, Int.reduceAdd, Int.reduceMul, Int.reduceSub, Int.reduceNeg, Nat.reduceAdd, Nat.reduceMul, Nat.reduceSub, Nat.reduceEqDiff, Nat.reduceLT, Nat.reduceLeDiff])
    | ((first | (with_reducible refine r_ret ?_) | (with_reducible refine pick_viewG default (by first | omega | (simp only [LN]; omega)) (by first | omega | (simp only [LN]; omega)) ?_) | (with_reducible refine pick_own default (by first | omega | (simp only [LN]; omega)) ?_) | (with_reducible refine And.intro (by first | decide | omega | assumption | (simp only [LN]; omega)) ?_) | ((with_reducible show pickE _ _ _); first | refine pickE_intro _ ⟨by omega, by rfl⟩ ?_ | refine pickE_intro _ (by rfl) ?_) | fail); try simp -dsimp -implicitDefEqProofs (maxSteps := 1000000) (disch := first | omega | (simp only [LN]; omega)) only [go_sem, Int.reduceToNat, Int.reducePow, Nat.reducePow, Int.reduceAdd, Int.reduceMul, Int.reduceSub, Int.reduceNeg, Nat.reduceAdd, Nat.reduceMul, Nat.reduceSub, Nat.reduceEqDiff, Nat.reduceLT, Nat.reduceLeDiff])
    | fail)
  refine r_loopA (α := Nat) [1, 2, 3, 12] (fun i b => [(13, aI i)]) (fun i b => [(3, .var [.p (.v (.string (bs x.nm))), .p (.v (.int .i64 x.ver)), .sl b 3 0 i])]) (fun i => [.arr 3 ((x.fs.take i).map rF)]) (fun i => i ≤ x.fs.length) (fun i => x.fs.length - i) (0) ?h0_1 ?hs0_1 ?I_1 ?hI_1 ?round_1
  case hI_1 => intro x; (simp -dsimp -implicitDefEqProofs (maxSteps := 1000000) (disch := first | omega | (simp only [LN]; omega)) only [go_sem, Int.reduceToNat, Int.reducePow, Nat.reducePow, Int.reduceAdd, Int.reduceMul, Int.reduceSub, Int.reduceNeg, Nat.reduceAdd, Nat.reduceMul, Nat.reduceSub, Nat.reduceEqDiff, Nat.reduceLT, Nat.reduceLeDiff]) <;> exact rfl
  case hs0_1 => refine wk_auto ?_; (simp -dsimp -implicitDefEqProofs (maxSteps := 1000000) (disch := first | omega | (simp only [LN, List.take_zero, List.map_nil]; omega)) only [go_sem, Int.reduceToNat, Int.reducePow, Nat.reducePow, Int.reduceAdd, Int.reduceMul, Int.reduceSub, Int.reduceNeg, Nat.reduceAdd, Nat.reduceMul, Nat.reduceSub, Nat.reduceEqDiff, Nat.reduceLT, Nat.reduceLeDiff, List.take_zero, List.map_nil]) <;> (try omega)
  case h0_1 => exact Nat.zero_le _
  case round_1 =>
    intro i hi
    repeat' (first
      | (with_reducible first | refine r_seq ?_ | refine r_block ?_ | refine fork_not ?_ | refine fork_and ?_ | refine fork_or ?_ | refine chk_ok (by kernel_rfl) ?_)
      | ((with_reducible first | refine fork_dec ?_ ?_ | refine fork_eq ?_ ?_ | refine fork_ne ?_ ?_ | refine fork_intro ?_ ?_) <;> intro h)
      | ((with_reducible show False); omega)
      | ((first | (with_reducible first | refine r_exit ?_ | refine r_skip ?_ | refine r_cond ?_ | refine r_region ?_ | show VX _ _ _ _ _ _ _ | show vstep _ _ _ _ _ | show vskip _ _ _ | show withV _ _) | ((with_reducible show endA _ _ _ _ _ _ _); simp -implicitDefEqProofs only [endA])); simp -dsimp -implicitDefEqProofs (maxSteps := 1000000) (disch := first | omega | (simp only [LN]; omega)) only [go_sem, Int.reduceToNat, Int.reducePow, Nat.reducePow, Int.reduceAdd, Int.reduceMul, Int.reduceSub, Int.reduceNeg, Nat.reduceAdd, Nat.reduceMul, Nat.reduceSub, Nat.reduceEqDiff, Nat.reduceLT, Nat.reduceLeDiff])
      | ((first | (with_reducible refine r_ret ?_) | (with_reducible refine pick_viewG default (by first | omega | (simp only [LN]; omega)) (by first | omega | (simp only [LN]; omega)) ?_) | (with_reducible refine pick_own default (by first | omega | (simp only [LN]; omega)) ?_) | (with_reducible refine And.intro (by first | decide | omega | assumption | (simp only [LN]; omega)) ?_) | ((with_reducible show pickE _ _ _); first | refine pickE_intro _ ⟨by omega, by rfl⟩ ?_ | refine pickE_intro _ (by rfl) ?_) | fail); try simp -dsimp -implicitDefEqProofs (maxSteps := 1000000) (disch := first | omega | (simp only [LN]; omega)) only [go_sem, Int.reduceToNat, Int.reducePow, Nat.reducePow, Int.reduceAdd, Int.reduceMul, Int.reduceSub, Int.reduceNeg, Nat.reduceAdd, Nat.reduceMul, Nat.reduceSub, Nat.reduceEqDiff, Nat.reduceLT, Nat.reduceLeDiff])
      | fail)
    · have e := take_step (l := x.fs) (i := i) (by omega)
      have hti := ht i (by omega)
      (refine loopQ_next (i + 1) ?_ ?_ ?_; (omega); (show _ < _; omega); (simp -dsimp -implicitDefEqProofs (maxSteps := 1000000) (disch := first | omega | (simp only [LN, e, List.map_append, List.map_cons, List.map_nil]; omega)) only [go_sem, Int.reduceToNat, Int.reducePow, Nat.reducePow, Int.reduceAdd, Int.reduceMul, Int.reduceSub, Int.reduceNeg, Nat.reduceAdd, Nat.reduceMul, Nat.reduceSub, Nat.reduceEqDiff, Nat.reduceLT, Nat.reduceLeDiff, e, List.map_append, List.map_cons, List.map_nil]; try trivial))
    · omega
/-- Whether one of the first i fields has this name. -/
def seenF (fs : List F) : Nat → Value → Bool
  | 0, _ => false
  | i + 1, v => seenF fs i v || (match v with | .string s => decide (s.data.toList = (fs.getD i default).nm) | _ => false)
theorem seen_0 (fs : List F) : seenF fs 0 = fun _ => false := rfl
theorem seen_step (fs : List F) (i : Nat) : updF (seenF fs i) (.string (bs (fs.getD i default).nm)) true = seenF fs (i + 1) := by
  funext v
  unfold updF
  simp only [seenF]
  split
  · rename_i h; subst h; simp
  · rename_i h
    cases v with
    | string s =>
      have : ¬ s.data.toList = (fs.getD i default).nm := fun e => h (by rw [← e])
      simp only []
      rw [decide_eq_false this, Bool.or_false]
    | _ => simp
theorem seen_at (fs : List F) (l : List UInt8) : ∀ i, seenF fs i (.string (bs l)) = true ↔ ∃ k, k < i ∧ (fs.getD k default).nm = l
  | 0 => by simp [seenF]
  | i + 1 => by
    simp only [seenF, Bool.or_eq_true, seen_at fs l i, decide_eq_true_iff]
    constructor
    · rintro (⟨k, h1, h2⟩ | h)
      · exact ⟨k, by omega, h2⟩
      · exact ⟨i, by omega, h.symm⟩
    · rintro ⟨k, h1, h2⟩
      by_cases hk : k < i
      · exact .inl ⟨k, hk, h2⟩
      · obtain rfl : k = i := by omega
        exact .inr h2.symm
end Go.Proofs.YtlkffmmgcoiniaaDoor
