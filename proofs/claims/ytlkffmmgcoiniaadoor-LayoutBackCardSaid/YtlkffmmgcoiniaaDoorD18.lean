/- Contracts of functions of this program, and the plain facts that they rest on. No conditions. -/
import Derived.Test.YtlkffmmgcoiniaaDoorD17
set_option linter.unusedSimpArgs false
set_option linter.unusedVariables false
namespace Go.Proofs.YtlkffmmgcoiniaaDoor
open Go Go.Ab
attribute [local irreducible] callK callF loopQ vstep vskip pickE hideP
set_option maxRecDepth 100000
attribute [local go_sem] eF rF eS eP eX rX eQ eL eN eW
/-- The number of the field with a name, or -1. -/
def fndI (x : X) (nm : List UInt8) : Int := match fnd x nm with | some j => j | none => -1
theorem fndI_s {x : X} {nm : List UInt8} {j : Nat} (h : fnd x nm = some j) : fndI x nm = j := by unfold fndI; rw [h]
theorem fndI_n {x : X} {nm : List UInt8} (h : fnd x nm = none) : fndI x nm = -1 := by unfold fndI; rw [h]
theorem fnd_first {x : X} {nm : List UInt8} {j : Nat} (hj : j < x.fs.length) (h1 : (x.fs.getD j default).nm = nm) (h2 : ∀ k, k < j → ¬ (x.fs.getD k default).nm = nm) : fnd x nm = some j := by
  cases hf : fnd x nm with
  | none => exact absurd h1 (fndTo_none hf j hj)
  | some i =>
    obtain ⟨a, b, c⟩ := fndTo_some hf
    rcases Nat.lt_trichotomy i j with h | h | h
    · exact absurd b (h2 i h)
    · rw [h]
    · exact absurd h1 (c j h)
theorem fnd_no {x : X} {nm : List UInt8} (h2 : ∀ k, k < x.fs.length → ¬ (x.fs.getD k default).nm = nm) : fnd x nm = none := by
  cases hf : fnd x nm with
  | none => rfl
  | some i =>
    obtain ⟨a, b, c⟩ := fndTo_some hf
    exact absurd b (h2 i a)
set_option maxRecDepth 100000 in
set_option maxHeartbeats 4000000 in
theorem cFind (x : X) (hl : x.fs.length ≤ 40) (nm : List UInt8) : PCalls Tryd.prog 45 [rX x, .v (.string (bs nm))] (.v (.int .i64 (fndI x nm))) := by
  refine pcalls_of (E := E) (fn := Tryd.f45) 22 [.tmp 4] rfl rfl rfl rfl (by decide) rfl ?_
  repeat' (first
    | (with_reducible first | refine r_seq ?_ | refine r_block ?_ | refine fork_not ?_ | refine fork_and ?_ | refine fork_or ?_ | refine chk_ok (by kernel_rfl) ?_)
    | ((with_reducible first | refine fork_dec ?_ ?_ | refine fork_eq ?_ ?_ | refine fork_ne ?_ ?_ | refine fork_intro ?_ ?_) <;> intro h)
    | ((with_reducible show False); omega)
    | ((first | (with_reducible first | refine r_exit ?_ | refine r_skip ?_ | refine r_cond ?_ | refine r_region ?_ | show VX _ _ _ _ _ _ _ | show vstep _ _ _ _ _ | show vskip _ _ _ | show withV _ _) | ((with_reducible show endA _ _ _ _ _ _ _); simp -implicitDefEqProofs only [endA])); simp -dsimp -implicitDefEqProofs (maxSteps := 1000000) (disch := first | omega | (simp only [LN]; omega)) only [go_sem, Int.reduceToNat, Int.reducePow, Nat.reducePow, Int.reduceAdd, Int.reduceMul, Int.reduceSub, Int.reduceNeg, Nat.reduceAdd, Nat.reduceMul, Nat.reduceSub, Nat.reduceEqDiff, Nat.reduceLT, Nat.reduceLeDiff])
    | ((first | (with_reducible refine r_ret ?_) | (with_reducible refine pick_viewG default (by first | omega | (simp only [LN]; omega)) (by first | omega | (simp only [LN]; omega)) ?_) | (with_reducible refine pick_own default (by first | omega | (simp only [LN]; omega)) ?_) | (with_reducible refine And.intro (by first | decide | omega | assumption | (simp only [LN]; omega)) ?_) | ((with_reducible show pickE _ _ _); first | refine pickE_intro _ ⟨by omega, by rfl⟩ ?_ | refine pickE_intro _ (by rfl) ?_) | fail); try simp -dsimp -implicitDefEqProofs (maxSteps := 1000000) (disch := first | omega | (simp only [LN]; omega)) only [go_sem, Int.reduceToNat, Int.reducePow, Nat.reducePow, Int.reduceAdd, Int.reduceMul, Int.reduceSub, Int.reduceNeg, Nat.reduceAdd, Nat.reduceMul, Nat.reduceSub, Nat.reduceEqDiff, Nat.reduceLT, Nat.reduceLeDiff])
    | fail)
  refine r_loopA (α := Nat) [1, 2] (fun i b => [(5, aI i)]) (fun i b => []) (fun i => []) (fun i => i ≤ x.fs.length ∧ ∀ k, k < i → ¬ (x.fs.getD k default).nm = nm) (fun i => x.fs.length - i) (0) ?h0_1 ?hs0_1 ?I_1 ?hI_1 ?round_1
  case hI_1 => intro x; (simp -dsimp -implicitDefEqProofs (maxSteps := 1000000) (disch := first | omega | (simp only [LN]; omega)) only [go_sem, Int.reduceToNat, Int.reducePow, Nat.reducePow, Int.reduceAdd, Int.reduceMul, Int.reduceSub, Int.reduceNeg, Nat.reduceAdd, Nat.reduceMul, Nat.reduceSub, Nat.reduceEqDiff, Nat.reduceLT, Nat.reduceLeDiff]) <;> exact rfl
  case hs0_1 => refine wk_auto ?_; (simp -dsimp -implicitDefEqProofs (maxSteps := 1000000) (disch := first | omega | (simp only [LN]; omega)) only [go_sem, Int.reduceToNat, Int.reducePow, Nat.reducePow, Int.reduceAdd, Int.reduceMul, Int.reduceSub, Int.reduceNeg, Nat.reduceAdd, Nat.reduceMul, Nat.reduceSub, Nat.reduceEqDiff, Nat.reduceLT, Nat.reduceLeDiff]) <;> (try omega)
  case h0_1 => exact ⟨Nat.zero_le _, fun k hk => absurd hk (by omega)⟩
  case round_1 =>
    intro i hi
    obtain ⟨hi1, hi2⟩ := hi
    by_cases hi3 : i < x.fs.length
    · by_cases he : (x.fs.getD i default).nm = nm
      · have e := fndI_s (fnd_first hi3 he hi2)
        repeat' (first
          | (with_reducible first | refine r_seq ?_ | refine r_block ?_ | refine fork_not ?_ | refine fork_and ?_ | refine fork_or ?_ | refine chk_ok (by kernel_rfl) ?_)
          | ((with_reducible first | refine fork_dec ?_ ?_ | refine fork_eq ?_ ?_ | refine fork_ne ?_ ?_ | refine fork_intro ?_ ?_) <;> intro h <;> try (exfalso; first | omega | exact h rfl | (revert h; decide) | (cases h; done)))
          | ((with_reducible show False); omega)
          | ((first | (with_reducible first | refine r_exit ?_ | refine r_skip ?_ | refine r_cond ?_ | refine r_region ?_ | show VX _ _ _ _ _ _ _ | show vstep _ _ _ _ _ | show vskip _ _ _ | show withV _ _) | ((with_reducible show endA _ _ _ _ _ _ _); simp -implicitDefEqProofs only [endA])); simp -dsimp -implicitDefEqProofs (maxSteps := 1000000) (disch := first | omega | (simp only [LN, he, e]; omega)) only [go_sem, Int.reduceToNat, Int.reducePow, Nat.reducePow, Int.reduceAdd, Int.reduceMul, Int.reduceSub, Int.reduceNeg, Nat.reduceAdd, Nat.reduceMul, Nat.reduceSub, Nat.reduceEqDiff, Nat.reduceLT, Nat.reduceLeDiff, he, e])
          | ((first | (with_reducible refine r_ret ?_) | (with_reducible refine pick_viewG default (by first | omega | (simp only [LN, he, e]; omega)) (by first | omega | (simp only [LN, he, e]; omega)) ?_) | (with_reducible refine pick_own default (by first | omega | (simp only [LN, he, e]; omega)) ?_) | (with_reducible refine And.intro (by first | decide | omega | assumption | (simp only [LN, he, e]; omega)) ?_) | ((with_reducible show pickE _ _ _); first | refine pickE_intro _ ⟨by omega, by rfl⟩ ?_ | refine pickE_intro _ (by rfl) ?_) | fail); try simp -dsimp -implicitDefEqProofs (maxSteps := 1000000) (disch := first | omega | (simp only [LN, he, e]; omega)) only [go_sem, Int.reduceToNat, Int.reducePow, Nat.reducePow, Int.reduceAdd, Int.reduceMul, Int.reduceSub, Int.reduceNeg, Nat.reduceAdd, Nat.reduceMul, Nat.reduceSub, Nat.reduceEqDiff, Nat.reduceLT, Nat.reduceLeDiff, he, e])
          | fail)
        all_goals first | rfl | omega | trace_state
      · repeat' (first
          | (with_reducible first | refine r_seq ?_ | refine r_block ?_ | refine fork_not ?_ | refine fork_and ?_ | refine fork_or ?_ | refine chk_ok (by kernel_rfl) ?_)
          | ((with_reducible first | refine fork_dec ?_ ?_ | refine fork_eq ?_ ?_ | refine fork_ne ?_ ?_ | refine fork_intro ?_ ?_) <;> intro h <;> try (exfalso; first | omega | exact h rfl | (revert h; decide) | (cases h; done)))
          | ((with_reducible show False); omega)
          | ((first | (with_reducible first | refine r_exit ?_ | refine r_skip ?_ | refine r_cond ?_ | refine r_region ?_ | show VX _ _ _ _ _ _ _ | show vstep _ _ _ _ _ | show vskip _ _ _ | show withV _ _) | ((with_reducible show endA _ _ _ _ _ _ _); simp -implicitDefEqProofs only [endA])); simp -dsimp -implicitDefEqProofs (maxSteps := 1000000) (disch := first | omega | (simp only [LN, he]; omega)) only [go_sem, Int.reduceToNat, Int.reducePow, Nat.reducePow, Int.reduceAdd, Int.reduceMul, Int.reduceSub, Int.reduceNeg, Nat.reduceAdd, Nat.reduceMul, Nat.reduceSub, Nat.reduceEqDiff, Nat.reduceLT, Nat.reduceLeDiff, he])
          | ((first | (with_reducible refine r_ret ?_) | (with_reducible refine pick_viewG default (by first | omega | (simp only [LN, he]; omega)) (by first | omega | (simp only [LN, he]; omega)) ?_) | (with_reducible refine pick_own default (by first | omega | (simp only [LN, he]; omega)) ?_) | (with_reducible refine And.intro (by first | decide | omega | assumption | (simp only [LN, he]; omega)) ?_) | ((with_reducible show pickE _ _ _); first | refine pickE_intro _ ⟨by omega, by rfl⟩ ?_ | refine pickE_intro _ (by rfl) ?_) | fail); try simp -dsimp -implicitDefEqProofs (maxSteps := 1000000) (disch := first | omega | (simp only [LN, he]; omega)) only [go_sem, Int.reduceToNat, Int.reducePow, Nat.reducePow, Int.reduceAdd, Int.reduceMul, Int.reduceSub, Int.reduceNeg, Nat.reduceAdd, Nat.reduceMul, Nat.reduceSub, Nat.reduceEqDiff, Nat.reduceLT, Nat.reduceLeDiff, he])
          | fail)
        all_goals first | omega | (refine loopQ_next (i + 1) ?_ ?_ ?_; (exact ⟨by omega, lt_ext hi2 he⟩); (show _ < _; omega); (simp -dsimp -implicitDefEqProofs (maxSteps := 1000000) (disch := first | omega | (simp only [LN]; omega)) only [go_sem, Int.reduceToNat, Int.reducePow, Nat.reducePow, Int.reduceAdd, Int.reduceMul, Int.reduceSub, Int.reduceNeg, Nat.reduceAdd, Nat.reduceMul, Nat.reduceSub, Nat.reduceEqDiff, Nat.reduceLT, Nat.reduceLeDiff]; try trivial)) | trace_state
    · obtain rfl : i = x.fs.length := by omega
      have e := fndI_n (fnd_no hi2)
      repeat' (first
        | (with_reducible first | refine r_seq ?_ | refine r_block ?_ | refine fork_not ?_ | refine fork_and ?_ | refine fork_or ?_ | refine chk_ok (by kernel_rfl) ?_)
        | ((with_reducible first | refine fork_dec ?_ ?_ | refine fork_eq ?_ ?_ | refine fork_ne ?_ ?_ | refine fork_intro ?_ ?_) <;> intro h <;> try (exfalso; first | omega | exact h rfl | (revert h; decide) | (cases h; done)))
        | ((with_reducible show False); omega)
        | ((first | (with_reducible first | refine r_exit ?_ | refine r_skip ?_ | refine r_cond ?_ | refine r_region ?_ | show VX _ _ _ _ _ _ _ | show vstep _ _ _ _ _ | show vskip _ _ _ | show withV _ _) | ((with_reducible show endA _ _ _ _ _ _ _); simp -implicitDefEqProofs only [endA])); simp -dsimp -implicitDefEqProofs (maxSteps := 1000000) (disch := first | omega | (simp only [LN, e]; omega)) only [go_sem, Int.reduceToNat, Int.reducePow, Nat.reducePow, Int.reduceAdd, Int.reduceMul, Int.reduceSub, Int.reduceNeg, Nat.reduceAdd, Nat.reduceMul, Nat.reduceSub, Nat.reduceEqDiff, Nat.reduceLT, Nat.reduceLeDiff, e])
        | ((first | (with_reducible refine r_ret ?_) | (with_reducible refine pick_viewG default (by first | omega | (simp only [LN, e]; omega)) (by first | omega | (simp only [LN, e]; omega)) ?_) | (with_reducible refine pick_own default (by first | omega | (simp only [LN, e]; omega)) ?_) | (with_reducible refine And.intro (by first | decide | omega | assumption | (simp only [LN, e]; omega)) ?_) | ((with_reducible show pickE _ _ _); first | refine pickE_intro _ ⟨by omega, by rfl⟩ ?_ | refine pickE_intro _ (by rfl) ?_) | fail); try simp -dsimp -implicitDefEqProofs (maxSteps := 1000000) (disch := first | omega | (simp only [LN, e]; omega)) only [go_sem, Int.reduceToNat, Int.reducePow, Nat.reducePow, Int.reduceAdd, Int.reduceMul, Int.reduceSub, Int.reduceNeg, Nat.reduceAdd, Nat.reduceMul, Nat.reduceSub, Nat.reduceEqDiff, Nat.reduceLT, Nat.reduceLeDiff, e])
        | fail)
      all_goals first | rfl | omega | trace_state
theorem plF_mem (fs : List F) (i : Nat) {k : Nat} : ∀ {c : Nat}, k < c → k < (plF fs i c).length ∧ (plF fs i c).getD k default = plAt fs i k := fun {c} h => ⟨by rw [plF_len]; exact h, plF_get fs i h⟩
theorem pls_mem (fs : List F) {i k : Nat} (hk : k < (fs.getD i default).cnt.toNat) : ∀ {n : Nat}, i < n → ∃ q, q < (pls fs n).length ∧ (pls fs n).getD q default = plAt fs i k
  | 0, h => absurd h (by omega)
  | n + 1, h => by
    rw [pls]
    rcases Nat.lt_or_ge i n with h1 | h1
    · obtain ⟨q, h2, h3⟩ := pls_mem fs hk h1
      refine ⟨q, by rw [List.length_append]; omega, ?_⟩
      rw [List.getD_eq_getElem?_getD, List.getElem?_append_left h2, ← List.getD_eq_getElem?_getD, h3]
    · obtain rfl : i = n := by omega
      obtain ⟨h2, h3⟩ := plF_mem fs i hk
      refine ⟨(pls fs i).length + k, by rw [List.length_append]; omega, ?_⟩
      rw [List.getD_eq_getElem?_getD, List.getElem?_append_right (by omega), Nat.add_sub_cancel_left, ← List.getD_eq_getElem?_getD, h3]
theorem plAt_e (fs : List F) (i k : Nat) : plAt fs i k = ⟨i, k, (plAt fs i k).wd, (plAt fs i k).sh, (plAt fs i k).wi⟩ := rfl
attribute [local irreducible] plAt
set_option maxRecDepth 100000 in
set_option maxHeartbeats 4000000 in
theorem cAt (x : X) (hl : x.fs.length ≤ 40) (hc : CntOk x.fs) (f k : Nat) (hf : f < x.fs.length) (hk : (k : Int) < (x.fs.getD f default).cnt) : PCalls Tryd.prog 50 [rX x, .v (.int .i64 f), .v (.int .i64 k)] (eQ (plAt x.fs f k)) := by
  refine pcalls_of (E := E) (fn := Tryd.f50) 38 [.cell 6 42] rfl rfl rfl rfl (by decide) rfl ?_
  have hpl := pls_len hc x.fs.length (Nat.le_refl _)
  obtain ⟨za, zb, zc, hz⟩ : ∃ a b c, plAt x.fs f k = ⟨f, k, a, b, c⟩ := ⟨_, _, _, plAt_e x.fs f k⟩
  repeat' (first
    | (with_reducible first | refine r_seq ?_ | refine r_block ?_ | refine fork_not ?_ | refine fork_and ?_ | refine fork_or ?_ | refine chk_ok (by kernel_rfl) ?_)
    | ((with_reducible first | refine fork_dec ?_ ?_ | refine fork_eq ?_ ?_ | refine fork_ne ?_ ?_ | refine fork_intro ?_ ?_) <;> intro h)
    | ((with_reducible show False); omega)
    | ((first | (with_reducible first | refine r_exit ?_ | refine r_skip ?_ | refine r_cond ?_ | refine r_region ?_ | show VX _ _ _ _ _ _ _ | show vstep _ _ _ _ _ | show vskip _ _ _ | show withV _ _) | ((with_reducible show endA _ _ _ _ _ _ _); simp -implicitDefEqProofs only [endA])); simp -dsimp -implicitDefEqProofs (maxSteps := 1000000) (disch := first | omega | (simp only [LN]; omega)) only [go_sem, Int.reduceToNat, Int.reducePow, Nat.reducePow, Int.reduceAdd, Int.reduceMul, Int.reduceSub, Int.reduceNeg, Nat.reduceAdd, Nat.reduceMul, Nat.reduceSub, Nat.reduceEqDiff, Nat.reduceLT, Nat.reduceLeDiff])
    | ((first | (with_reducible refine r_ret ?_) | (with_reducible refine pick_viewG default (by first | omega | (simp only [LN]; omega)) (by first | omega | (simp only [LN]; omega)) ?_) | (with_reducible refine pick_own default (by first | omega | (simp only [LN]; omega)) ?_) | (with_reducible refine And.intro (by first | decide | omega | assumption | (simp only [LN]; omega)) ?_) | ((with_reducible apply callK_pure); (exact c18 x hl hc)) | ((with_reducible apply callF_lend); (exact c18 x hl hc); rfl) | ((with_reducible apply callF_go); (exact c18 x hl hc)) | ((with_reducible show pickE _ _ _); first | refine pickE_intro _ ⟨by omega, by rfl⟩ ?_ | refine pickE_intro _ (by rfl) ?_) | fail); try simp -dsimp -implicitDefEqProofs (maxSteps := 1000000) (disch := first | omega | (simp only [LN]; omega)) only [go_sem, Int.reduceToNat, Int.reducePow, Nat.reducePow, Int.reduceAdd, Int.reduceMul, Int.reduceSub, Int.reduceNeg, Nat.reduceAdd, Nat.reduceMul, Nat.reduceSub, Nat.reduceEqDiff, Nat.reduceLT, Nat.reduceLeDiff])
    | fail)
  refine r_loopA (α := Nat) [1, 2, 6, 7] (fun q b => [(8, aI q)]) (fun q b => []) (fun q => []) (fun q => q ≤ (pls x.fs x.fs.length).length ∧ ∀ r, r < q → ¬ ((pls x.fs x.fs.length).getD r default = plAt x.fs f k)) (fun q => (pls x.fs x.fs.length).length - q) (0) ?h0_2 ?hs0_2 ?I_2 ?hI_2 ?round_2
  case hI_2 => intro x; (simp -dsimp -implicitDefEqProofs (maxSteps := 1000000) (disch := first | omega | (simp only [LN]; omega)) only [go_sem, Int.reduceToNat, Int.reducePow, Nat.reducePow, Int.reduceAdd, Int.reduceMul, Int.reduceSub, Int.reduceNeg, Nat.reduceAdd, Nat.reduceMul, Nat.reduceSub, Nat.reduceEqDiff, Nat.reduceLT, Nat.reduceLeDiff]) <;> exact rfl
  case hs0_2 => refine wk_auto ?_; (simp -dsimp -implicitDefEqProofs (maxSteps := 1000000) (disch := first | omega | (simp only [LN]; omega)) only [go_sem, Int.reduceToNat, Int.reducePow, Nat.reducePow, Int.reduceAdd, Int.reduceMul, Int.reduceSub, Int.reduceNeg, Nat.reduceAdd, Nat.reduceMul, Nat.reduceSub, Nat.reduceEqDiff, Nat.reduceLT, Nat.reduceLeDiff]) <;> (try omega)
  case h0_2 => exact ⟨Nat.zero_le _, fun r hr => absurd hr (by omega)⟩
  case round_2 =>
    intro q hq
    obtain ⟨hq1, hq2⟩ := hq
    by_cases hq3 : q < (pls x.fs x.fs.length).length
    · obtain ⟨i, j, hi, hj, hqe⟩ := pls_get x.fs hq3
      by_cases hm : i = f ∧ j = k
      · obtain ⟨rfl, rfl⟩ := hm
        rw [hz] at hqe
        repeat' (first
          | (with_reducible first | refine r_seq ?_ | refine r_block ?_ | refine fork_not ?_ | refine fork_and ?_ | refine fork_or ?_ | refine chk_ok (by kernel_rfl) ?_)
          | ((with_reducible first | refine fork_dec ?_ ?_ | refine fork_eq ?_ ?_ | refine fork_ne ?_ ?_ | refine fork_intro ?_ ?_) <;> intro h <;> try (exfalso; first | omega | exact h rfl | (revert h; decide) | (cases h; done)))
          | ((with_reducible show False); omega)
          | ((first | (with_reducible first | refine r_exit ?_ | refine r_skip ?_ | refine r_cond ?_ | refine r_region ?_ | show VX _ _ _ _ _ _ _ | show vstep _ _ _ _ _ | show vskip _ _ _ | show withV _ _) | ((with_reducible show endA _ _ _ _ _ _ _); simp -implicitDefEqProofs only [endA])); simp -dsimp -implicitDefEqProofs (maxSteps := 1000000) (disch := first | omega | (simp only [LN, hqe, hz]; omega)) only [go_sem, Int.reduceToNat, Int.reducePow, Nat.reducePow, Int.reduceAdd, Int.reduceMul, Int.reduceSub, Int.reduceNeg, Nat.reduceAdd, Nat.reduceMul, Nat.reduceSub, Nat.reduceEqDiff, Nat.reduceLT, Nat.reduceLeDiff, hqe, hz])
          | ((first | (with_reducible refine r_ret ?_) | (with_reducible refine pick_viewG default (by first | omega | (simp only [LN, hqe, hz]; omega)) (by first | omega | (simp only [LN, hqe, hz]; omega)) ?_) | (with_reducible refine pick_own default (by first | omega | (simp only [LN, hqe, hz]; omega)) ?_) | (with_reducible refine And.intro (by first | decide | omega | assumption | (simp only [LN, hqe, hz]; omega)) ?_) | ((with_reducible show pickE _ _ _); first | refine pickE_intro _ ⟨by omega, by rfl⟩ ?_ | refine pickE_intro _ (by rfl) ?_) | fail); try simp -dsimp -implicitDefEqProofs (maxSteps := 1000000) (disch := first | omega | (simp only [LN, hqe, hz]; omega)) only [go_sem, Int.reduceToNat, Int.reducePow, Nat.reducePow, Int.reduceAdd, Int.reduceMul, Int.reduceSub, Int.reduceNeg, Nat.reduceAdd, Nat.reduceMul, Nat.reduceSub, Nat.reduceEqDiff, Nat.reduceLT, Nat.reduceLeDiff, hqe, hz])
          | fail)
        all_goals first | rfl | omega | (exact ⟨rfl, rfl, rfl, rfl, rfl⟩) | (simp at *; done) | trace_state
      · have hz2 := plAt_e x.fs i j
        rw [hz2] at hqe
        have hne : ¬ ((pls x.fs x.fs.length).getD q default = plAt x.fs f k) := fun e => hm (by rw [hqe, hz] at e; exact ⟨(Pl.mk.inj e).1, (Pl.mk.inj e).2.1⟩)
        repeat' (first
          | (with_reducible first | refine r_seq ?_ | refine r_block ?_ | refine fork_not ?_ | refine fork_and ?_ | refine fork_or ?_ | refine chk_ok (by kernel_rfl) ?_)
          | ((with_reducible first | refine fork_dec ?_ ?_ | refine fork_eq ?_ ?_ | refine fork_ne ?_ ?_ | refine fork_intro ?_ ?_) <;> intro h <;> try (exfalso; first | omega | exact h rfl | (revert h; decide) | (cases h; done)))
          | ((with_reducible show False); omega)
          | ((first | (with_reducible first | refine r_exit ?_ | refine r_skip ?_ | refine r_cond ?_ | refine r_region ?_ | show VX _ _ _ _ _ _ _ | show vstep _ _ _ _ _ | show vskip _ _ _ | show withV _ _) | ((with_reducible show endA _ _ _ _ _ _ _); simp -implicitDefEqProofs only [endA])); simp -dsimp -implicitDefEqProofs (maxSteps := 1000000) (disch := first | omega | (simp only [LN, hqe]; omega)) only [go_sem, Int.reduceToNat, Int.reducePow, Nat.reducePow, Int.reduceAdd, Int.reduceMul, Int.reduceSub, Int.reduceNeg, Nat.reduceAdd, Nat.reduceMul, Nat.reduceSub, Nat.reduceEqDiff, Nat.reduceLT, Nat.reduceLeDiff, hqe])
          | ((first | (with_reducible refine r_ret ?_) | (with_reducible refine pick_viewG default (by first | omega | (simp only [LN, hqe]; omega)) (by first | omega | (simp only [LN, hqe]; omega)) ?_) | (with_reducible refine pick_own default (by first | omega | (simp only [LN, hqe]; omega)) ?_) | (with_reducible refine And.intro (by first | decide | omega | assumption | (simp only [LN, hqe]; omega)) ?_) | ((with_reducible show pickE _ _ _); first | refine pickE_intro _ ⟨by omega, by rfl⟩ ?_ | refine pickE_intro _ (by rfl) ?_) | fail); try simp -dsimp -implicitDefEqProofs (maxSteps := 1000000) (disch := first | omega | (simp only [LN, hqe]; omega)) only [go_sem, Int.reduceToNat, Int.reducePow, Nat.reducePow, Int.reduceAdd, Int.reduceMul, Int.reduceSub, Int.reduceNeg, Nat.reduceAdd, Nat.reduceMul, Nat.reduceSub, Nat.reduceEqDiff, Nat.reduceLT, Nat.reduceLeDiff, hqe])
          | fail)
        all_goals first | omega | (refine loopQ_next (q + 1) ?_ ?_ ?_; (exact ⟨by omega, lt_ext hq2 hne⟩); (show _ < _; omega); (simp -dsimp -implicitDefEqProofs (maxSteps := 1000000) (disch := first | omega | (simp only [LN]; omega)) only [go_sem, Int.reduceToNat, Int.reducePow, Nat.reducePow, Int.reduceAdd, Int.reduceMul, Int.reduceSub, Int.reduceNeg, Nat.reduceAdd, Nat.reduceMul, Nat.reduceSub, Nat.reduceEqDiff, Nat.reduceLT, Nat.reduceLeDiff]; try trivial)) | (exfalso; omega) | trace_state
    · obtain ⟨r, h1, h2⟩ := pls_mem x.fs (i := f) (k := k) (by omega) hf
      exact absurd h2 (hq2 r (by omega))
end Go.Proofs.YtlkffmmgcoiniaaDoor
