/- Contracts of functions of this program, and the plain facts that they rest on. No conditions. -/
import Derived.Test.YtlkffmmgcoiniaaDoorD7
set_option linter.unusedSimpArgs false
set_option linter.unusedVariables false
namespace Go.Proofs.YtlkffmmgcoiniaaDoor
open Go Go.Ab
attribute [local irreducible] callK callF loopQ vstep vskip pickE hideP
set_option maxRecDepth 100000
attribute [local go_sem] eF rF eS eP eX rX eQ eL
theorem posTo_64 {fs : List F} : ∀ {n : Nat}, (∀ k, k < n → 1 ≤ (fs.getD k default).cnt) → (posTo fs n).2 ≤ 64
  | 0, _ => Nat.zero_le _
  | n + 1, h => by
    have ih := posTo_64 (n := n) fun k hk => h k (by omega)
    rw [posTo, next_run (h n (by omega))]
    exact (run_ok (wok _) ih _).1
theorem next_mono {p : Nat × Nat} {f : F} (hp : p.2 ≤ 64) (h : 1 ≤ f.cnt) : p.1 ≤ (nextM p f).1 := by
  rw [next_run h]; exact (run_ok (wok _) hp _).2.1
def greatB (fs : List F) : Nat → Bool
  | 0 => false
  | i + 1 => greatB fs i || decide (3840 < (fs.getD i default).cnt)
theorem greatB_f {fs : List F} : ∀ {n : Nat}, greatB fs n = false → ∀ k, k < n → (fs.getD k default).cnt ≤ 3840
  | 0, _, k, hk => absurd hk (by omega)
  | n + 1, h, k, hk => by
    rw [greatB, Bool.or_eq_false_iff] at h
    rcases Nat.lt_or_ge k n with h1 | h1
    · exact greatB_f h.1 k h1
    · obtain rfl : k = n := by omega
      have := of_decide_eq_false h.2
      omega
theorem stN_fits {fs : List F} : ∀ {n : Nat}, (∀ k, k < n → 1 ≤ (fs.getD k default).cnt) →
    ((stN fs n).b = (!greatB fs n && decide ((posTo fs n).1 < 60))) ∧ ((stN fs n).b = true → (stN fs n).sl = slotsTo fs n ∧ (stN fs n).p = posTo fs n)
  | 0, _ => ⟨rfl, fun _ => ⟨rfl, rfl⟩⟩
  | n + 1, h => by
    obtain ⟨i1, i2⟩ := stN_fits (n := n) fun k hk => h k (by omega)
    have h64 := posTo_64 (n := n) fun k hk => h k (by omega)
    have hm := next_mono h64 (h n (by omega))
    by_cases hb : (stN fs n).b = true
    · obtain ⟨e1, e2⟩ := i2 hb
      rw [hb] at i1
      have i1 := i1.symm
      rw [Bool.and_eq_true, Bool.not_eq_true'] at i1
      by_cases hc : (fs.getD n default).cnt ≤ 3840
      · rw [stN_t hb hc, e1, e2]
        refine ⟨?_, fun _ => ⟨rfl, rfl⟩⟩
        simp only [greatB, posTo, i1.1]
        rw [decide_eq_false (show ¬ 3840 < (fs.getD n default).cnt by omega)]
        simp only [Bool.or_self, Bool.not_false, Bool.true_and]
        exact decide_eq_decide.2 ⟨fun h => by omega, fun h => by omega⟩
      · rw [stN_f (.inr hc)]
        refine ⟨?_, fun h => by simp at h⟩
        simp only [greatB]
        rw [decide_eq_true (show 3840 < (fs.getD n default).cnt by omega)]
        simp
    · have hb : (stN fs n).b = false := by simpa using hb
      rw [stN_f (.inl hb)]
      refine ⟨?_, fun h => by simp at h⟩
      rw [hb] at i1
      simp only [greatB]
      cases hg : greatB fs n with
      | true => simp
      | false =>
        rw [hg] at i1
        have : ¬ (posTo fs n).1 < 60 := by simpa using i1.symm
        have hd : decide ((posTo fs (n + 1)).1 < 60) = false := decide_eq_false (by rw [posTo]; omega)
        rw [hd]
        simp
theorem cnt_of {fs : List F} {n : Nat} (h : ∀ k, k < n → errF fs k = 0) : ∀ k, k < n → 1 ≤ (fs.getD k default).cnt := fun k hk => (okF (h k hk)).2.1.2.2
/-- The error as the reference reckons it. -/
theorem newE_end {x : X} (h0 : nameM x.nm = true) (h : ¬ (x.ver < 1 ∨ 65535 < x.ver ∨ x.fs.length = 0)) (h2 : ∀ k, k < x.fs.length → errF x.fs k = 0) :
    newE x = if greatB x.fs x.fs.length = true ∨ 60 ≤ (posTo x.fs x.fs.length).1 then 9 else 0 := by
  rw [newE_fit h0 h (errs_zero.2 h2), (stN_fits (cnt_of h2)).1]
  cases greatB x.fs x.fs.length with
  | true => simp
  | false =>
    by_cases hp : (posTo x.fs x.fs.length).1 < 60
    · rw [decide_eq_true hp, if_pos (by rfl), if_neg (by simp; omega)]
    · rw [decide_eq_false hp, if_neg (by simp), if_pos (.inr (by omega))]
theorem seen_iff {fs : List F} {i : Nat} {l : List UInt8} (h : seenF fs i (.string (bs l)) = true) : ∃ k, k < i ∧ (fs.getD k default).nm = l := (seen_at fs l i).1 h
theorem lt_ext {p : Nat → Prop} {n : Nat} (h : ∀ k, k < n → p k) (hn : p n) : ∀ k, k < n + 1 → p k := fun k hk => by
  rcases Nat.lt_or_ge k n with h3 | h3
  · exact h k h3
  · obtain rfl : k = n := by omega
    exact hn
set_option maxRecDepth 100000 in
set_option maxHeartbeats 4000000 in
theorem c15 (x : X) (hl : x.fs.length ≤ 40) (hln : x.nm.length ≤ 100) (hlf : ∀ i, i < x.fs.length → (x.fs.getD i default).nm.length ≤ 100) : PCalls Tryd.prog 15 [rX x] (.v (.int .i64 (newE x))) := by
  refine pcalls_of (E := E) (fn := Tryd.f15) 80 [.tmp 2] rfl rfl rfl rfl (by decide) rfl ?_
  by_cases h0 : nameM x.nm = true
  · by_cases h1 : x.ver < 1 ∨ 65535 < x.ver ∨ x.fs.length = 0
    · have e := newE_arg h0 h1
      repeat' (first
        | (with_reducible first | refine r_seq ?_ | refine r_block ?_ | refine fork_not ?_ | refine fork_and ?_ | refine fork_or ?_ | refine chk_ok (by kernel_rfl) ?_)
        | ((with_reducible first | refine fork_dec ?_ ?_ | refine fork_eq ?_ ?_ | refine fork_ne ?_ ?_ | refine fork_intro ?_ ?_) <;> intro h <;> try (exfalso; first | omega | exact h rfl | (revert h; decide) | (cases h; done)))
        | ((with_reducible show False); omega)
        | ((first | (with_reducible first | refine r_exit ?_ | refine r_skip ?_ | refine r_cond ?_ | refine r_region ?_ | show VX _ _ _ _ _ _ _ | show vstep _ _ _ _ _ | show vskip _ _ _ | show withV _ _) | ((with_reducible show endA _ _ _ _ _ _ _); simp -implicitDefEqProofs only [endA])); simp -dsimp -implicitDefEqProofs (maxSteps := 1000000) (disch := first | omega | (simp only [LN, h0, e]; omega)) only [go_sem, Int.reduceToNat, Int.reducePow, Nat.reducePow, Int.reduceAdd, Int.reduceMul, Int.reduceSub, Int.reduceNeg, Nat.reduceAdd, Nat.reduceMul, Nat.reduceSub, Nat.reduceEqDiff, Nat.reduceLT, Nat.reduceLeDiff, h0, e])
        | ((first | (with_reducible refine r_ret ?_) | (with_reducible refine pick_viewG default (by first | omega | (simp only [LN, h0, e]; omega)) (by first | omega | (simp only [LN, h0, e]; omega)) ?_) | (with_reducible refine pick_own default (by first | omega | (simp only [LN, h0, e]; omega)) ?_) | (with_reducible refine And.intro (by first | decide | omega | assumption | (simp only [LN, h0, e]; omega)) ?_) | ((with_reducible apply callK_pure); (exact c38 _ (by omega))) | ((with_reducible apply callF_lend); (exact c38 _ (by omega)); rfl) | ((with_reducible apply callF_go); (exact c38 _ (by omega))) | ((with_reducible show pickE _ _ _); first | refine pickE_intro _ ⟨by omega, by rfl⟩ ?_ | refine pickE_intro _ (by rfl) ?_) | fail); try simp -dsimp -implicitDefEqProofs (maxSteps := 1000000) (disch := first | omega | (simp only [LN, h0, e]; omega)) only [go_sem, Int.reduceToNat, Int.reducePow, Nat.reducePow, Int.reduceAdd, Int.reduceMul, Int.reduceSub, Int.reduceNeg, Nat.reduceAdd, Nat.reduceMul, Nat.reduceSub, Nat.reduceEqDiff, Nat.reduceLT, Nat.reduceLeDiff, h0, e])
        | fail)
      all_goals first | omega | trace_state
    · repeat' (first
        | (with_reducible first | refine r_seq ?_ | refine r_block ?_ | refine fork_not ?_ | refine fork_and ?_ | refine fork_or ?_ | refine chk_ok (by kernel_rfl) ?_)
        | ((with_reducible first | refine fork_dec ?_ ?_ | refine fork_eq ?_ ?_ | refine fork_ne ?_ ?_ | refine fork_intro ?_ ?_) <;> intro h <;> try (exfalso; first | omega | exact h rfl | (revert h; decide) | (cases h; done)))
        | ((with_reducible show False); omega)
        | ((first | (with_reducible first | refine r_exit ?_ | refine r_skip ?_ | refine r_cond ?_ | refine r_region ?_ | show VX _ _ _ _ _ _ _ | show vstep _ _ _ _ _ | show vskip _ _ _ | show withV _ _) | ((with_reducible show endA _ _ _ _ _ _ _); simp -implicitDefEqProofs only [endA])); simp -dsimp -implicitDefEqProofs (maxSteps := 1000000) (disch := first | omega | (simp only [LN, h0]; omega)) only [go_sem, Int.reduceToNat, Int.reducePow, Nat.reducePow, Int.reduceAdd, Int.reduceMul, Int.reduceSub, Int.reduceNeg, Nat.reduceAdd, Nat.reduceMul, Nat.reduceSub, Nat.reduceEqDiff, Nat.reduceLT, Nat.reduceLeDiff, h0])
        | ((first | (with_reducible refine r_ret ?_) | (with_reducible refine pick_viewG default (by first | omega | (simp only [LN, h0]; omega)) (by first | omega | (simp only [LN, h0]; omega)) ?_) | (with_reducible refine pick_own default (by first | omega | (simp only [LN, h0]; omega)) ?_) | (with_reducible refine And.intro (by first | decide | omega | assumption | (simp only [LN, h0]; omega)) ?_) | ((with_reducible apply callK_pure); (exact c38 _ (by omega))) | ((with_reducible apply callF_lend); (exact c38 _ (by omega)); rfl) | ((with_reducible apply callF_go); (exact c38 _ (by omega))) | ((with_reducible show pickE _ _ _); first | refine pickE_intro _ ⟨by omega, by rfl⟩ ?_ | refine pickE_intro _ (by rfl) ?_) | fail); try simp -dsimp -implicitDefEqProofs (maxSteps := 1000000) (disch := first | omega | (simp only [LN, h0]; omega)) only [go_sem, Int.reduceToNat, Int.reducePow, Nat.reducePow, Int.reduceAdd, Int.reduceMul, Int.reduceSub, Int.reduceNeg, Nat.reduceAdd, Nat.reduceMul, Nat.reduceSub, Nat.reduceEqDiff, Nat.reduceLT, Nat.reduceLeDiff, h0])
        | fail)
      refine r_loopA (α := Nat) [1] (fun i b => [(3, aB (greatB x.fs i)), (4, aI i)]) (fun i b => []) (fun i => []) (fun i => i ≤ x.fs.length ∧ ∀ k, k < i → errF x.fs k = 0) (fun i => x.fs.length - i) (0) ?h0_1 ?hs0_1 ?I_1 ?hI_1 ?round_1
      case hI_1 => intro x; (simp -dsimp -implicitDefEqProofs (maxSteps := 1000000) (disch := first | omega | (simp only [LN]; omega)) only [go_sem, Int.reduceToNat, Int.reducePow, Nat.reducePow, Int.reduceAdd, Int.reduceMul, Int.reduceSub, Int.reduceNeg, Nat.reduceAdd, Nat.reduceMul, Nat.reduceSub, Nat.reduceEqDiff, Nat.reduceLT, Nat.reduceLeDiff]) <;> exact rfl
      case hs0_1 => refine wk_auto ?_; (simp -dsimp -implicitDefEqProofs (maxSteps := 1000000) (disch := first | omega | (simp only [LN, greatB]; omega)) only [go_sem, Int.reduceToNat, Int.reducePow, Nat.reducePow, Int.reduceAdd, Int.reduceMul, Int.reduceSub, Int.reduceNeg, Nat.reduceAdd, Nat.reduceMul, Nat.reduceSub, Nat.reduceEqDiff, Nat.reduceLT, Nat.reduceLeDiff, greatB]) <;> (try omega)
      case h0_1 => exact ⟨Nat.zero_le _, fun k hk => absurd hk (by omega)⟩
      case round_1 =>
        intro i hi
        obtain ⟨hi1, hi2⟩ := hi
        by_cases hi3 : i < x.fs.length
        · have hnl := hlf i hi3
          by_cases hnm : nameM (x.fs.getD i default).nm = true
          · by_cases hty : 1 ≤ (x.fs.getD i default).ty ∧ (x.fs.getD i default).ty ≤ 7 ∧ 1 ≤ (x.fs.getD i default).cnt
            · repeat' (first
                | (with_reducible first | refine r_seq ?_ | refine r_block ?_ | refine fork_not ?_ | refine fork_and ?_ | refine fork_or ?_ | refine chk_ok (by kernel_rfl) ?_)
                | ((with_reducible first | refine fork_dec ?_ ?_ | refine fork_eq ?_ ?_ | refine fork_ne ?_ ?_ | refine fork_intro ?_ ?_) <;> intro h <;> try (exfalso; first | omega | exact h rfl | (revert h; decide) | (cases h; done)))
                | ((with_reducible show False); omega)
                | ((first | (with_reducible first | refine r_exit ?_ | refine r_skip ?_ | refine r_cond ?_ | refine r_region ?_ | show VX _ _ _ _ _ _ _ | show vstep _ _ _ _ _ | show vskip _ _ _ | show withV _ _) | ((with_reducible show endA _ _ _ _ _ _ _); simp -implicitDefEqProofs only [endA])); simp -dsimp -implicitDefEqProofs (maxSteps := 1000000) (disch := first | omega | (simp only [LN, hnm]; omega)) only [go_sem, Int.reduceToNat, Int.reducePow, Nat.reducePow, Int.reduceAdd, Int.reduceMul, Int.reduceSub, Int.reduceNeg, Nat.reduceAdd, Nat.reduceMul, Nat.reduceSub, Nat.reduceEqDiff, Nat.reduceLT, Nat.reduceLeDiff, hnm])
                | ((first | (with_reducible refine r_ret ?_) | (with_reducible refine pick_viewG default (by first | omega | (simp only [LN, hnm]; omega)) (by first | omega | (simp only [LN, hnm]; omega)) ?_) | (with_reducible refine pick_own default (by first | omega | (simp only [LN, hnm]; omega)) ?_) | (with_reducible refine And.intro (by first | decide | omega | assumption | (simp only [LN, hnm]; omega)) ?_) | ((with_reducible apply callK_pure); (exact c38 _ (by omega))) | ((with_reducible apply callF_lend); (exact c38 _ (by omega)); rfl) | ((with_reducible apply callF_go); (exact c38 _ (by omega))) | ((with_reducible show pickE _ _ _); first | refine pickE_intro _ ⟨by omega, by rfl⟩ ?_ | refine pickE_intro _ (by rfl) ?_) | fail); try simp -dsimp -implicitDefEqProofs (maxSteps := 1000000) (disch := first | omega | (simp only [LN, hnm]; omega)) only [go_sem, Int.reduceToNat, Int.reducePow, Nat.reducePow, Int.reduceAdd, Int.reduceMul, Int.reduceSub, Int.reduceNeg, Nat.reduceAdd, Nat.reduceMul, Nat.reduceSub, Nat.reduceEqDiff, Nat.reduceLT, Nat.reduceLeDiff, hnm])
                | fail)
              refine r_loopA (α := Nat) [1, 3, 4, 5] (fun g b => [(6, aI g)]) (fun g b => []) (fun g => []) (fun g => g ≤ i ∧ ∀ k, k < g → ¬ (x.fs.getD k default).nm = (x.fs.getD i default).nm) (fun g => i - g) (0) ?h0_2 ?hs0_2 ?I_2 ?hI_2 ?round_2
              case hI_2 => intro x; (simp -dsimp -implicitDefEqProofs (maxSteps := 1000000) (disch := first | omega | (simp only [LN]; omega)) only [go_sem, Int.reduceToNat, Int.reducePow, Nat.reducePow, Int.reduceAdd, Int.reduceMul, Int.reduceSub, Int.reduceNeg, Nat.reduceAdd, Nat.reduceMul, Nat.reduceSub, Nat.reduceEqDiff, Nat.reduceLT, Nat.reduceLeDiff]) <;> exact rfl
              case hs0_2 => refine wk_auto ?_; (simp -dsimp -implicitDefEqProofs (maxSteps := 1000000) (disch := first | omega | (simp only [LN]; omega)) only [go_sem, Int.reduceToNat, Int.reducePow, Nat.reducePow, Int.reduceAdd, Int.reduceMul, Int.reduceSub, Int.reduceNeg, Nat.reduceAdd, Nat.reduceMul, Nat.reduceSub, Nat.reduceEqDiff, Nat.reduceLT, Nat.reduceLeDiff]) <;> (try omega)
              case h0_2 => exact ⟨Nat.zero_le _, fun k hk => absurd hk (by omega)⟩
              case round_2 =>
                intro g hg
                obtain ⟨hg1, hg2⟩ := hg
                by_cases hg3 : g < i
                · by_cases hsm : (x.fs.getD g default).nm = (x.fs.getD i default).nm
                  · have hseen : seenF x.fs i (.string (bs (x.fs.getD i default).nm)) = true := (seen_at _ _ _).2 ⟨g, hg3, hsm⟩
                    have e2 : errF x.fs i = 6 := by unfold errF; rw [if_neg (by rw [hnm]; simp), if_neg (by simpa using hty), if_pos hseen]
                    have e1 := errs_at hi2 (by omega) hi3
                    have e := newE_err h0 h1 (by omega)
                    rw [e1, e2] at e
                    repeat' (first
                      | (with_reducible first | refine r_seq ?_ | refine r_block ?_ | refine fork_not ?_ | refine fork_and ?_ | refine fork_or ?_ | refine chk_ok (by kernel_rfl) ?_)
                      | ((with_reducible first | refine fork_dec ?_ ?_ | refine fork_eq ?_ ?_ | refine fork_ne ?_ ?_ | refine fork_intro ?_ ?_) <;> intro h <;> try (exfalso; first | omega | exact h rfl | (revert h; decide) | (cases h; done)))
                      | ((with_reducible show False); omega)
                      | ((first | (with_reducible first | refine r_exit ?_ | refine r_skip ?_ | refine r_cond ?_ | refine r_region ?_ | show VX _ _ _ _ _ _ _ | show vstep _ _ _ _ _ | show vskip _ _ _ | show withV _ _) | ((with_reducible show endA _ _ _ _ _ _ _); simp -implicitDefEqProofs only [endA])); simp -dsimp -implicitDefEqProofs (maxSteps := 1000000) (disch := first | omega | (simp only [LN, hsm, e]; omega)) only [go_sem, Int.reduceToNat, Int.reducePow, Nat.reducePow, Int.reduceAdd, Int.reduceMul, Int.reduceSub, Int.reduceNeg, Nat.reduceAdd, Nat.reduceMul, Nat.reduceSub, Nat.reduceEqDiff, Nat.reduceLT, Nat.reduceLeDiff, hsm, e])
                      | ((first | (with_reducible refine r_ret ?_) | (with_reducible refine pick_viewG default (by first | omega | (simp only [LN, hsm, e]; omega)) (by first | omega | (simp only [LN, hsm, e]; omega)) ?_) | (with_reducible refine pick_own default (by first | omega | (simp only [LN, hsm, e]; omega)) ?_) | (with_reducible refine And.intro (by first | decide | omega | assumption | (simp only [LN, hsm, e]; omega)) ?_) | ((with_reducible show pickE _ _ _); first | refine pickE_intro _ ⟨by omega, by rfl⟩ ?_ | refine pickE_intro _ (by rfl) ?_) | fail); try simp -dsimp -implicitDefEqProofs (maxSteps := 1000000) (disch := first | omega | (simp only [LN, hsm, e]; omega)) only [go_sem, Int.reduceToNat, Int.reducePow, Nat.reducePow, Int.reduceAdd, Int.reduceMul, Int.reduceSub, Int.reduceNeg, Nat.reduceAdd, Nat.reduceMul, Nat.reduceSub, Nat.reduceEqDiff, Nat.reduceLT, Nat.reduceLeDiff, hsm, e])
                      | fail)
                    all_goals first | omega | trace_state
                  · repeat' (first
                      | (with_reducible first | refine r_seq ?_ | refine r_block ?_ | refine fork_not ?_ | refine fork_and ?_ | refine fork_or ?_ | refine chk_ok (by kernel_rfl) ?_)
                      | ((with_reducible first | refine fork_dec ?_ ?_ | refine fork_eq ?_ ?_ | refine fork_ne ?_ ?_ | refine fork_intro ?_ ?_) <;> intro h <;> try (exfalso; first | omega | exact h rfl | (revert h; decide) | (cases h; done)))
                      | ((with_reducible show False); omega)
                      | ((first | (with_reducible first | refine r_exit ?_ | refine r_skip ?_ | refine r_cond ?_ | refine r_region ?_ | show VX _ _ _ _ _ _ _ | show vstep _ _ _ _ _ | show vskip _ _ _ | show withV _ _) | ((with_reducible show endA _ _ _ _ _ _ _); simp -implicitDefEqProofs only [endA])); simp -dsimp -implicitDefEqProofs (maxSteps := 1000000) (disch := first | omega | (simp only [LN, hsm]; omega)) only [go_sem, Int.reduceToNat, Int.reducePow, Nat.reducePow, Int.reduceAdd, Int.reduceMul, Int.reduceSub, Int.reduceNeg, Nat.reduceAdd, Nat.reduceMul, Nat.reduceSub, Nat.reduceEqDiff, Nat.reduceLT, Nat.reduceLeDiff, hsm])
                      | ((first | (with_reducible refine r_ret ?_) | (with_reducible refine pick_viewG default (by first | omega | (simp only [LN, hsm]; omega)) (by first | omega | (simp only [LN, hsm]; omega)) ?_) | (with_reducible refine pick_own default (by first | omega | (simp only [LN, hsm]; omega)) ?_) | (with_reducible refine And.intro (by first | decide | omega | assumption | (simp only [LN, hsm]; omega)) ?_) | ((with_reducible show pickE _ _ _); first | refine pickE_intro _ ⟨by omega, by rfl⟩ ?_ | refine pickE_intro _ (by rfl) ?_) | fail); try simp -dsimp -implicitDefEqProofs (maxSteps := 1000000) (disch := first | omega | (simp only [LN, hsm]; omega)) only [go_sem, Int.reduceToNat, Int.reducePow, Nat.reducePow, Int.reduceAdd, Int.reduceMul, Int.reduceSub, Int.reduceNeg, Nat.reduceAdd, Nat.reduceMul, Nat.reduceSub, Nat.reduceEqDiff, Nat.reduceLT, Nat.reduceLeDiff, hsm])
                      | fail)
                    all_goals first
                      | omega
                      | (refine loopQ_next (g + 1) ?_ ?_ ?_; (exact ⟨by omega, lt_ext hg2 hsm⟩); (show _ < _; omega); (simp -dsimp -implicitDefEqProofs (maxSteps := 1000000) (disch := first | omega | (simp only [LN]; omega)) only [go_sem, Int.reduceToNat, Int.reducePow, Nat.reducePow, Int.reduceAdd, Int.reduceMul, Int.reduceSub, Int.reduceNeg, Nat.reduceAdd, Nat.reduceMul, Nat.reduceSub, Nat.reduceEqDiff, Nat.reduceLT, Nat.reduceLeDiff]; try trivial))
                      | trace_state
                · have hseen : seenF x.fs i (.string (bs (x.fs.getD i default).nm)) = false := by
                    rw [← Bool.not_eq_true]
                    intro hs
                    obtain ⟨k, hk1, hk2⟩ := seen_iff hs
                    exact hg2 k (by omega) hk2
                  have e2 : errF x.fs i = 0 := by unfold errF; rw [if_neg (by rw [hnm]; simp), if_neg (by simpa using hty), if_neg (by rw [hseen]; simp)]
                  have hgo : ∀ k, k < i + 1 → errF x.fs k = 0 := fun k hk => by
                    rcases Nat.lt_or_ge k i with h3 | h3
                    · exact hi2 k h3
                    · obtain rfl : k = i := by omega
                      exact e2
                  have hgs : greatB x.fs (i + 1) = (greatB x.fs i || decide (3840 < (x.fs.getD i default).cnt)) := rfl
                  by_cases hb : greatB x.fs i = true
                  · rw [hb, Bool.true_or] at hgs
                    repeat' (first
                      | (with_reducible first | refine r_seq ?_ | refine r_block ?_ | refine fork_not ?_ | refine fork_and ?_ | refine fork_or ?_ | refine chk_ok (by kernel_rfl) ?_)
                      | ((with_reducible first | refine fork_dec ?_ ?_ | refine fork_eq ?_ ?_ | refine fork_ne ?_ ?_ | refine fork_intro ?_ ?_) <;> intro h <;> try (exfalso; first | omega | exact h rfl | (revert h; decide) | (cases h; done)))
                      | ((with_reducible show False); omega)
                      | ((first | (with_reducible first | refine r_exit ?_ | refine r_skip ?_ | refine r_cond ?_ | refine r_region ?_ | show VX _ _ _ _ _ _ _ | show vstep _ _ _ _ _ | show vskip _ _ _ | show withV _ _) | ((with_reducible show endA _ _ _ _ _ _ _); simp -implicitDefEqProofs only [endA])); simp -dsimp -implicitDefEqProofs (maxSteps := 1000000) (disch := first | omega | (simp only [LN, hb]; omega)) only [go_sem, Int.reduceToNat, Int.reducePow, Nat.reducePow, Int.reduceAdd, Int.reduceMul, Int.reduceSub, Int.reduceNeg, Nat.reduceAdd, Nat.reduceMul, Nat.reduceSub, Nat.reduceEqDiff, Nat.reduceLT, Nat.reduceLeDiff, hb])
                      | ((first | (with_reducible refine r_ret ?_) | (with_reducible refine pick_viewG default (by first | omega | (simp only [LN, hb]; omega)) (by first | omega | (simp only [LN, hb]; omega)) ?_) | (with_reducible refine pick_own default (by first | omega | (simp only [LN, hb]; omega)) ?_) | (with_reducible refine And.intro (by first | decide | omega | assumption | (simp only [LN, hb]; omega)) ?_) | ((with_reducible show pickE _ _ _); first | refine pickE_intro _ ⟨by omega, by rfl⟩ ?_ | refine pickE_intro _ (by rfl) ?_) | fail); try simp -dsimp -implicitDefEqProofs (maxSteps := 1000000) (disch := first | omega | (simp only [LN, hb]; omega)) only [go_sem, Int.reduceToNat, Int.reducePow, Nat.reducePow, Int.reduceAdd, Int.reduceMul, Int.reduceSub, Int.reduceNeg, Nat.reduceAdd, Nat.reduceMul, Nat.reduceSub, Nat.reduceEqDiff, Nat.reduceLT, Nat.reduceLeDiff, hb])
                      | fail)
                    all_goals first
                      | omega
                      | (refine loopQ_next (i + 1) ?_ ?_ ?_; (exact ⟨by omega, hgo⟩); (show _ < _; omega); (simp -dsimp -implicitDefEqProofs (maxSteps := 1000000) (disch := first | omega | (simp only [LN, hgs]; omega)) only [go_sem, Int.reduceToNat, Int.reducePow, Nat.reducePow, Int.reduceAdd, Int.reduceMul, Int.reduceSub, Int.reduceNeg, Nat.reduceAdd, Nat.reduceMul, Nat.reduceSub, Nat.reduceEqDiff, Nat.reduceLT, Nat.reduceLeDiff, hgs]; try trivial))
                      | trace_state
                  · have hb : greatB x.fs i = false := by simpa using hb
                    rw [hb, Bool.false_or] at hgs
                    repeat' (first
                      | (with_reducible first | refine r_seq ?_ | refine r_block ?_ | refine fork_not ?_ | refine fork_and ?_ | refine fork_or ?_ | refine chk_ok (by kernel_rfl) ?_)
                      | ((with_reducible first | refine fork_dec ?_ ?_ | refine fork_eq ?_ ?_ | refine fork_ne ?_ ?_ | refine fork_intro ?_ ?_) <;> intro h <;> try (exfalso; first | omega | exact h rfl | (revert h; decide) | (cases h; done)))
                      | ((with_reducible show False); omega)
                      | ((first | (with_reducible first | refine r_exit ?_ | refine r_skip ?_ | refine r_cond ?_ | refine r_region ?_ | show VX _ _ _ _ _ _ _ | show vstep _ _ _ _ _ | show vskip _ _ _ | show withV _ _) | ((with_reducible show endA _ _ _ _ _ _ _); simp -implicitDefEqProofs only [endA])); simp -dsimp -implicitDefEqProofs (maxSteps := 1000000) (disch := first | omega | (simp only [LN, hb]; omega)) only [go_sem, Int.reduceToNat, Int.reducePow, Nat.reducePow, Int.reduceAdd, Int.reduceMul, Int.reduceSub, Int.reduceNeg, Nat.reduceAdd, Nat.reduceMul, Nat.reduceSub, Nat.reduceEqDiff, Nat.reduceLT, Nat.reduceLeDiff, hb])
                      | ((first | (with_reducible refine r_ret ?_) | (with_reducible refine pick_viewG default (by first | omega | (simp only [LN, hb]; omega)) (by first | omega | (simp only [LN, hb]; omega)) ?_) | (with_reducible refine pick_own default (by first | omega | (simp only [LN, hb]; omega)) ?_) | (with_reducible refine And.intro (by first | decide | omega | assumption | (simp only [LN, hb]; omega)) ?_) | ((with_reducible show pickE _ _ _); first | refine pickE_intro _ ⟨by omega, by rfl⟩ ?_ | refine pickE_intro _ (by rfl) ?_) | fail); try simp -dsimp -implicitDefEqProofs (maxSteps := 1000000) (disch := first | omega | (simp only [LN, hb]; omega)) only [go_sem, Int.reduceToNat, Int.reducePow, Nat.reducePow, Int.reduceAdd, Int.reduceMul, Int.reduceSub, Int.reduceNeg, Nat.reduceAdd, Nat.reduceMul, Nat.reduceSub, Nat.reduceEqDiff, Nat.reduceLT, Nat.reduceLeDiff, hb])
                      | fail)
                    all_goals first
                      | omega
                      | (refine loopQ_next (i + 1) ?_ ?_ ?_; (exact ⟨by omega, hgo⟩); (show _ < _; omega); (simp -dsimp -implicitDefEqProofs (maxSteps := 1000000) (disch := first | omega | (simp only [LN, hgs]; omega)) only [go_sem, Int.reduceToNat, Int.reducePow, Nat.reducePow, Int.reduceAdd, Int.reduceMul, Int.reduceSub, Int.reduceNeg, Nat.reduceAdd, Nat.reduceMul, Nat.reduceSub, Nat.reduceEqDiff, Nat.reduceLT, Nat.reduceLeDiff, hgs]; try trivial))
                      | trace_state
            · have e2 : errF x.fs i = 1 := by unfold errF; rw [if_neg (by rw [hnm]; simp), if_pos hty]
              have e1 := errs_at hi2 (by omega) hi3
              have e := newE_err h0 h1 (by omega)
              rw [e1, e2] at e
              repeat' (first
                | (with_reducible first | refine r_seq ?_ | refine r_block ?_ | refine fork_not ?_ | refine fork_and ?_ | refine fork_or ?_ | refine chk_ok (by kernel_rfl) ?_)
                | ((with_reducible first | refine fork_dec ?_ ?_ | refine fork_eq ?_ ?_ | refine fork_ne ?_ ?_ | refine fork_intro ?_ ?_) <;> intro h <;> try (exfalso; first | omega | exact h rfl | (revert h; decide) | (cases h; done)))
                | ((with_reducible show False); omega)
                | ((first | (with_reducible first | refine r_exit ?_ | refine r_skip ?_ | refine r_cond ?_ | refine r_region ?_ | show VX _ _ _ _ _ _ _ | show vstep _ _ _ _ _ | show vskip _ _ _ | show withV _ _) | ((with_reducible show endA _ _ _ _ _ _ _); simp -implicitDefEqProofs only [endA])); simp -dsimp -implicitDefEqProofs (maxSteps := 1000000) (disch := first | omega | (simp only [LN, hnm, e]; omega)) only [go_sem, Int.reduceToNat, Int.reducePow, Nat.reducePow, Int.reduceAdd, Int.reduceMul, Int.reduceSub, Int.reduceNeg, Nat.reduceAdd, Nat.reduceMul, Nat.reduceSub, Nat.reduceEqDiff, Nat.reduceLT, Nat.reduceLeDiff, hnm, e])
                | ((first | (with_reducible refine r_ret ?_) | (with_reducible refine pick_viewG default (by first | omega | (simp only [LN, hnm, e]; omega)) (by first | omega | (simp only [LN, hnm, e]; omega)) ?_) | (with_reducible refine pick_own default (by first | omega | (simp only [LN, hnm, e]; omega)) ?_) | (with_reducible refine And.intro (by first | decide | omega | assumption | (simp only [LN, hnm, e]; omega)) ?_) | ((with_reducible apply callK_pure); (exact c38 _ (by omega))) | ((with_reducible apply callF_lend); (exact c38 _ (by omega)); rfl) | ((with_reducible apply callF_go); (exact c38 _ (by omega))) | ((with_reducible show pickE _ _ _); first | refine pickE_intro _ ⟨by omega, by rfl⟩ ?_ | refine pickE_intro _ (by rfl) ?_) | fail); try simp -dsimp -implicitDefEqProofs (maxSteps := 1000000) (disch := first | omega | (simp only [LN, hnm, e]; omega)) only [go_sem, Int.reduceToNat, Int.reducePow, Nat.reducePow, Int.reduceAdd, Int.reduceMul, Int.reduceSub, Int.reduceNeg, Nat.reduceAdd, Nat.reduceMul, Nat.reduceSub, Nat.reduceEqDiff, Nat.reduceLT, Nat.reduceLeDiff, hnm, e])
                | fail)
              all_goals first | omega | trace_state
          · have hnm : nameM (x.fs.getD i default).nm = false := by simpa using hnm
            have e2 : errF x.fs i = 15 := by unfold errF; rw [if_pos hnm]
            have e1 := errs_at hi2 (by omega) hi3
            have e := newE_err h0 h1 (by omega)
            rw [e1, e2] at e
            repeat' (first
              | (with_reducible first | refine r_seq ?_ | refine r_block ?_ | refine fork_not ?_ | refine fork_and ?_ | refine fork_or ?_ | refine chk_ok (by kernel_rfl) ?_)
              | ((with_reducible first | refine fork_dec ?_ ?_ | refine fork_eq ?_ ?_ | refine fork_ne ?_ ?_ | refine fork_intro ?_ ?_) <;> intro h <;> try (exfalso; first | omega | exact h rfl | (revert h; decide) | (cases h; done)))
              | ((with_reducible show False); omega)
              | ((first | (with_reducible first | refine r_exit ?_ | refine r_skip ?_ | refine r_cond ?_ | refine r_region ?_ | show VX _ _ _ _ _ _ _ | show vstep _ _ _ _ _ | show vskip _ _ _ | show withV _ _) | ((with_reducible show endA _ _ _ _ _ _ _); simp -implicitDefEqProofs only [endA])); simp -dsimp -implicitDefEqProofs (maxSteps := 1000000) (disch := first | omega | (simp only [LN, hnm, e]; omega)) only [go_sem, Int.reduceToNat, Int.reducePow, Nat.reducePow, Int.reduceAdd, Int.reduceMul, Int.reduceSub, Int.reduceNeg, Nat.reduceAdd, Nat.reduceMul, Nat.reduceSub, Nat.reduceEqDiff, Nat.reduceLT, Nat.reduceLeDiff, hnm, e])
              | ((first | (with_reducible refine r_ret ?_) | (with_reducible refine pick_viewG default (by first | omega | (simp only [LN, hnm, e]; omega)) (by first | omega | (simp only [LN, hnm, e]; omega)) ?_) | (with_reducible refine pick_own default (by first | omega | (simp only [LN, hnm, e]; omega)) ?_) | (with_reducible refine And.intro (by first | decide | omega | assumption | (simp only [LN, hnm, e]; omega)) ?_) | ((with_reducible apply callK_pure); (exact c38 _ (by omega))) | ((with_reducible apply callF_lend); (exact c38 _ (by omega)); rfl) | ((with_reducible apply callF_go); (exact c38 _ (by omega))) | ((with_reducible show pickE _ _ _); first | refine pickE_intro _ ⟨by omega, by rfl⟩ ?_ | refine pickE_intro _ (by rfl) ?_) | fail); try simp -dsimp -implicitDefEqProofs (maxSteps := 1000000) (disch := first | omega | (simp only [LN, hnm, e]; omega)) only [go_sem, Int.reduceToNat, Int.reducePow, Nat.reducePow, Int.reduceAdd, Int.reduceMul, Int.reduceSub, Int.reduceNeg, Nat.reduceAdd, Nat.reduceMul, Nat.reduceSub, Nat.reduceEqDiff, Nat.reduceLT, Nat.reduceLeDiff, hnm, e])
              | fail)
            all_goals first | omega | trace_state
        · obtain rfl : i = x.fs.length := by omega
          have e := newE_end h0 h1 hi2
          by_cases hb : greatB x.fs x.fs.length = true
          · rw [if_pos (.inl hb)] at e
            repeat' (first
              | (with_reducible first | refine r_seq ?_ | refine r_block ?_ | refine fork_not ?_ | refine fork_and ?_ | refine fork_or ?_ | refine chk_ok (by kernel_rfl) ?_)
              | ((with_reducible first | refine fork_dec ?_ ?_ | refine fork_eq ?_ ?_ | refine fork_ne ?_ ?_ | refine fork_intro ?_ ?_) <;> intro h <;> try (exfalso; first | omega | exact h rfl | (revert h; decide) | (cases h; done)))
              | ((with_reducible show False); omega)
              | ((first | (with_reducible first | refine r_exit ?_ | refine r_skip ?_ | refine r_cond ?_ | refine r_region ?_ | show VX _ _ _ _ _ _ _ | show vstep _ _ _ _ _ | show vskip _ _ _ | show withV _ _) | ((with_reducible show endA _ _ _ _ _ _ _); simp -implicitDefEqProofs only [endA])); simp -dsimp -implicitDefEqProofs (maxSteps := 1000000) (disch := first | omega | (simp only [LN, hb, e]; omega)) only [go_sem, Int.reduceToNat, Int.reducePow, Nat.reducePow, Int.reduceAdd, Int.reduceMul, Int.reduceSub, Int.reduceNeg, Nat.reduceAdd, Nat.reduceMul, Nat.reduceSub, Nat.reduceEqDiff, Nat.reduceLT, Nat.reduceLeDiff, hb, e])
              | ((first | (with_reducible refine r_ret ?_) | (with_reducible refine pick_viewG default (by first | omega | (simp only [LN, hb, e]; omega)) (by first | omega | (simp only [LN, hb, e]; omega)) ?_) | (with_reducible refine pick_own default (by first | omega | (simp only [LN, hb, e]; omega)) ?_) | (with_reducible refine And.intro (by first | decide | omega | assumption | (simp only [LN, hb, e]; omega)) ?_) | ((with_reducible show pickE _ _ _); first | refine pickE_intro _ ⟨by omega, by rfl⟩ ?_ | refine pickE_intro _ (by rfl) ?_) | fail); try simp -dsimp -implicitDefEqProofs (maxSteps := 1000000) (disch := first | omega | (simp only [LN, hb, e]; omega)) only [go_sem, Int.reduceToNat, Int.reducePow, Nat.reducePow, Int.reduceAdd, Int.reduceMul, Int.reduceSub, Int.reduceNeg, Nat.reduceAdd, Nat.reduceMul, Nat.reduceSub, Nat.reduceEqDiff, Nat.reduceLT, Nat.reduceLeDiff, hb, e])
              | fail)
            all_goals first | omega | trace_state
          · have hb : greatB x.fs x.fs.length = false := by simpa using hb
            have hck : CntOk x.fs := fun k hk => ⟨cnt_of hi2 k hk, greatB_f hb k hk⟩
            have hpo := posTo_ok hck x.fs.length (Nat.le_refl _)
            have cw := c23 x hl (by omega) hck
            by_cases hp : 60 ≤ (posTo x.fs x.fs.length).1
            · rw [if_pos (.inr hp)] at e
              repeat' (first
                | (with_reducible first | refine r_seq ?_ | refine r_block ?_ | refine fork_not ?_ | refine fork_and ?_ | refine fork_or ?_ | refine chk_ok (by kernel_rfl) ?_)
                | ((with_reducible first | refine fork_dec ?_ ?_ | refine fork_eq ?_ ?_ | refine fork_ne ?_ ?_ | refine fork_intro ?_ ?_) <;> intro h <;> try (exfalso; first | omega | exact h rfl | (revert h; decide) | (cases h; done)))
                | ((with_reducible show False); omega)
                | ((first | (with_reducible first | refine r_exit ?_ | refine r_skip ?_ | refine r_cond ?_ | refine r_region ?_ | show VX _ _ _ _ _ _ _ | show vstep _ _ _ _ _ | show vskip _ _ _ | show withV _ _) | ((with_reducible show endA _ _ _ _ _ _ _); simp -implicitDefEqProofs only [endA])); simp -dsimp -implicitDefEqProofs (maxSteps := 1000000) (disch := first | omega | (simp only [LN, hb, e]; omega)) only [go_sem, Int.reduceToNat, Int.reducePow, Nat.reducePow, Int.reduceAdd, Int.reduceMul, Int.reduceSub, Int.reduceNeg, Nat.reduceAdd, Nat.reduceMul, Nat.reduceSub, Nat.reduceEqDiff, Nat.reduceLT, Nat.reduceLeDiff, hb, e])
                | ((first | (with_reducible refine r_ret ?_) | (with_reducible refine pick_viewG default (by first | omega | (simp only [LN, hb, e]; omega)) (by first | omega | (simp only [LN, hb, e]; omega)) ?_) | (with_reducible refine pick_own default (by first | omega | (simp only [LN, hb, e]; omega)) ?_) | (with_reducible refine And.intro (by first | decide | omega | assumption | (simp only [LN, hb, e]; omega)) ?_) | ((with_reducible apply callK_pure); (exact cw)) | ((with_reducible apply callF_lend); (exact cw); rfl) | ((with_reducible apply callF_go); (exact cw)) | ((with_reducible show pickE _ _ _); first | refine pickE_intro _ ⟨by omega, by rfl⟩ ?_ | refine pickE_intro _ (by rfl) ?_) | fail); try simp -dsimp -implicitDefEqProofs (maxSteps := 1000000) (disch := first | omega | (simp only [LN, hb, e]; omega)) only [go_sem, Int.reduceToNat, Int.reducePow, Nat.reducePow, Int.reduceAdd, Int.reduceMul, Int.reduceSub, Int.reduceNeg, Nat.reduceAdd, Nat.reduceMul, Nat.reduceSub, Nat.reduceEqDiff, Nat.reduceLT, Nat.reduceLeDiff, hb, e])
                | fail)
              all_goals first | omega | trace_state
            · rw [if_neg (by rw [hb]; simp; omega)] at e
              repeat' (first
                | (with_reducible first | refine r_seq ?_ | refine r_block ?_ | refine fork_not ?_ | refine fork_and ?_ | refine fork_or ?_ | refine chk_ok (by kernel_rfl) ?_)
                | ((with_reducible first | refine fork_dec ?_ ?_ | refine fork_eq ?_ ?_ | refine fork_ne ?_ ?_ | refine fork_intro ?_ ?_) <;> intro h <;> try (exfalso; first | omega | exact h rfl | (revert h; decide) | (cases h; done)))
                | ((with_reducible show False); omega)
                | ((first | (with_reducible first | refine r_exit ?_ | refine r_skip ?_ | refine r_cond ?_ | refine r_region ?_ | show VX _ _ _ _ _ _ _ | show vstep _ _ _ _ _ | show vskip _ _ _ | show withV _ _) | ((with_reducible show endA _ _ _ _ _ _ _); simp -implicitDefEqProofs only [endA])); simp -dsimp -implicitDefEqProofs (maxSteps := 1000000) (disch := first | omega | (simp only [LN, hb, e]; omega)) only [go_sem, Int.reduceToNat, Int.reducePow, Nat.reducePow, Int.reduceAdd, Int.reduceMul, Int.reduceSub, Int.reduceNeg, Nat.reduceAdd, Nat.reduceMul, Nat.reduceSub, Nat.reduceEqDiff, Nat.reduceLT, Nat.reduceLeDiff, hb, e])
                | ((first | (with_reducible refine r_ret ?_) | (with_reducible refine pick_viewG default (by first | omega | (simp only [LN, hb, e]; omega)) (by first | omega | (simp only [LN, hb, e]; omega)) ?_) | (with_reducible refine pick_own default (by first | omega | (simp only [LN, hb, e]; omega)) ?_) | (with_reducible refine And.intro (by first | decide | omega | assumption | (simp only [LN, hb, e]; omega)) ?_) | ((with_reducible apply callK_pure); (exact cw)) | ((with_reducible apply callF_lend); (exact cw); rfl) | ((with_reducible apply callF_go); (exact cw)) | ((with_reducible show pickE _ _ _); first | refine pickE_intro _ ⟨by omega, by rfl⟩ ?_ | refine pickE_intro _ (by rfl) ?_) | fail); try simp -dsimp -implicitDefEqProofs (maxSteps := 1000000) (disch := first | omega | (simp only [LN, hb, e]; omega)) only [go_sem, Int.reduceToNat, Int.reducePow, Nat.reducePow, Int.reduceAdd, Int.reduceMul, Int.reduceSub, Int.reduceNeg, Nat.reduceAdd, Nat.reduceMul, Nat.reduceSub, Nat.reduceEqDiff, Nat.reduceLT, Nat.reduceLeDiff, hb, e])
                | fail)
              all_goals first | omega | trace_state
  · have h0 : nameM x.nm = false := by simpa using h0
    have e := newE_nm h0
    repeat' (first
      | (with_reducible first | refine r_seq ?_ | refine r_block ?_ | refine fork_not ?_ | refine fork_and ?_ | refine fork_or ?_ | refine chk_ok (by kernel_rfl) ?_)
      | ((with_reducible first | refine fork_dec ?_ ?_ | refine fork_eq ?_ ?_ | refine fork_ne ?_ ?_ | refine fork_intro ?_ ?_) <;> intro h <;> try (exfalso; first | omega | exact h rfl | (revert h; decide) | (cases h; done)))
      | ((with_reducible show False); omega)
      | ((first | (with_reducible first | refine r_exit ?_ | refine r_skip ?_ | refine r_cond ?_ | refine r_region ?_ | show VX _ _ _ _ _ _ _ | show vstep _ _ _ _ _ | show vskip _ _ _ | show withV _ _) | ((with_reducible show endA _ _ _ _ _ _ _); simp -implicitDefEqProofs only [endA])); simp -dsimp -implicitDefEqProofs (maxSteps := 1000000) (disch := first | omega | (simp only [LN, h0, e]; omega)) only [go_sem, Int.reduceToNat, Int.reducePow, Nat.reducePow, Int.reduceAdd, Int.reduceMul, Int.reduceSub, Int.reduceNeg, Nat.reduceAdd, Nat.reduceMul, Nat.reduceSub, Nat.reduceEqDiff, Nat.reduceLT, Nat.reduceLeDiff, h0, e])
      | ((first | (with_reducible refine r_ret ?_) | (with_reducible refine pick_viewG default (by first | omega | (simp only [LN, h0, e]; omega)) (by first | omega | (simp only [LN, h0, e]; omega)) ?_) | (with_reducible refine pick_own default (by first | omega | (simp only [LN, h0, e]; omega)) ?_) | (with_reducible refine And.intro (by first | decide | omega | assumption | (simp only [LN, h0, e]; omega)) ?_) | ((with_reducible apply callK_pure); (exact c38 _ (by omega))) | ((with_reducible apply callF_lend); (exact c38 _ (by omega)); rfl) | ((with_reducible apply callF_go); (exact c38 _ (by omega))) | ((with_reducible show pickE _ _ _); first | refine pickE_intro _ ⟨by omega, by rfl⟩ ?_ | refine pickE_intro _ (by rfl) ?_) | fail); try simp -dsimp -implicitDefEqProofs (maxSteps := 1000000) (disch := first | omega | (simp only [LN, h0, e]; omega)) only [go_sem, Int.reduceToNat, Int.reducePow, Nat.reducePow, Int.reduceAdd, Int.reduceMul, Int.reduceSub, Int.reduceNeg, Nat.reduceAdd, Nat.reduceMul, Nat.reduceSub, Nat.reduceEqDiff, Nat.reduceLT, Nat.reduceLeDiff, h0, e])
      | fail)
    all_goals first | omega | trace_state
end Go.Proofs.YtlkffmmgcoiniaaDoor
