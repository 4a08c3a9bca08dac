/- Contracts of functions of this program, and the plain facts that they rest on. No conditions. -/
import Derived.Test.YtcnbngflehiphaaDoorD7
set_option linter.unusedSimpArgs false
set_option linter.unusedVariables false
namespace Go.Proofs.YtcnbngflehiphaaDoor
open Go Go.Ab
attribute [local irreducible] callK callF loopQ vstep vskip pickE hideP
attribute [local go_sem] eI
set_option maxRecDepth 100000
/-- Whether two lines are there and agree in their first j bytes. -/
def eqB (p q : List UInt8) (n : Nat) : Nat → Bool
  | 0 => decide (64 * n < p.length) && decide (64 * n < q.length)
  | j + 1 => eqB p q n j && decide (p.getD (64 * n + j) 0 = q.getD (64 * n + j) 0)
theorem eqB_iff (p q : List UInt8) (n : Nat) : ∀ j, eqB p q n j = true ↔ 64 * n < p.length ∧ 64 * n < q.length ∧ ∀ k, k < j → p.getD (64 * n + k) 0 = q.getD (64 * n + k) 0
  | 0 => by simp [eqB]
  | j + 1 => by
    rw [eqB, Bool.and_eq_true, eqB_iff p q n j, decide_eq_true_iff]
    constructor
    · rintro ⟨⟨h1, h2, h3⟩, h4⟩
      refine ⟨h1, h2, fun k hk => ?_⟩
      rcases Nat.lt_or_ge k j with h | h
      · exact h3 k h
      · obtain rfl : k = j := by omega
        exact h4
    · rintro ⟨h1, h2, h3⟩
      exact ⟨⟨h1, h2, fun k hk => h3 k (by omega)⟩, h3 j (by omega)⟩
theorem line_getD (p : List UInt8) (n k : Nat) (hk : k < 64) : (lineM p n).getD k 0 = p.getD (64 * n + k) 0 := by
  unfold lineM
  rw [List.getD_eq_getElem?_getD, List.getD_eq_getElem?_getD, List.getElem?_take_of_lt hk, List.getElem?_drop, Nat.mul_comm n 64]
theorem dif_eqB {p q : List UInt8} {n : Nat} (hp : p.length % 64 = 0) (hq : q.length % 64 = 0) : difM p q n = !eqB p q n 64 := by
  cases h : eqB p q n 64
  · show difM p q n = true
    rw [difM, decide_eq_true_iff]
    by_cases h1 : 64 * n < p.length
    · by_cases h2 : 64 * n < q.length
      · refine .inr (.inr fun he => ?_)
        rw [(eqB_iff p q n 64).2 ⟨h1, h2, fun k hk => by rw [← line_getD p n k hk, ← line_getD q n k hk, he]⟩] at h
        cases h
      · exact .inr (.inl (by omega))
    · exact .inl (by omega)
  · show difM p q n = false
    rw [difM, decide_eq_false_iff_not]
    obtain ⟨h1, h2, h3⟩ := (eqB_iff p q n 64).1 h
    have l1 : (lineM p n).length = 64 := by unfold lineM; simp; omega
    have l2 : (lineM q n).length = 64 := by unfold lineM; simp; omega
    rintro (h4 | h4 | h4)
    · omega
    · omega
    · apply h4
      apply List.ext_getElem (by omega)
      intro k hk1 hk2
      have := h3 k (by omega)
      rw [← line_getD p n k (by omega), ← line_getD q n k (by omega), List.getD_eq_getElem?_getD, List.getD_eq_getElem?_getD, List.getElem?_eq_getElem hk1, List.getElem?_eq_getElem hk2] at this
      exact this
theorem eqB_le {p q : List UInt8} {n : Nat} : ∀ {j k : Nat}, j ≤ k → eqB p q n j = false → eqB p q n k = false
  | j, 0, h, e => by obtain rfl : j = 0 := by omega
                     exact e
  | j, k + 1, h, e => by
    rcases Nat.lt_or_ge j (k + 1) with h' | h'
    · rw [eqB, eqB_le (by omega) e]; rfl
    · obtain rfl : j = k + 1 := by omega
      exact e
theorem byte_eq (a b : UInt8) : ((a.toNat : Int) == (b.toNat : Int)) = decide (a = b) := by
  by_cases h : a = b
  · subst h; simp
  · have : ¬ a.toNat = b.toNat := fun e => h (UInt8.toNat_inj.1 e)
    rw [decide_eq_false h]
    simp; omega
set_option maxRecDepth 100000 in
set_option maxHeartbeats 4000000 in
theorem c22 (p q : List UInt8) (hp : p.length ≤ 9000000) (hq : q.length ≤ 9000000) (hp64 : p.length % 64 = 0) (hq64 : q.length % 64 = 0) : PCalls Tryd.prog 22 [.view 1 (p.map eB), .view 1 (q.map eB)] (.view 1 ((diffM p q (max (p.length / 64) (q.length / 64))).map eN)) := by
  refine pcalls_facts ⟨_, rfl, rfl, by decide⟩ fun hf => ?_
  simp only [go_sem, big] at hf
  refine pcalls_of (E := E) (fn := Tryd.f22) 63 [.tmp 4] rfl rfl rfl rfl (by decide) rfl ?_
  repeat' (first
    | (with_reducible first | refine r_seq ?_ | refine r_block ?_ | refine fork_not ?_ | refine fork_and ?_ | refine fork_or ?_ | refine chk_ok (by kernel_rfl) ?_)
    | ((with_reducible first | refine fork_dec ?_ ?_ | refine fork_eq ?_ ?_ | refine fork_ne ?_ ?_ | refine fork_intro ?_ ?_) <;> intro h)
    | ((with_reducible show False); omega)
    | ((first | (with_reducible first | refine r_exit ?_ | refine r_skip ?_ | refine r_cond ?_ | refine r_region ?_ | show VX _ _ _ _ _ _ _ | show vstep _ _ _ _ _ | show vskip _ _ _ | show withV _ _) | ((with_reducible show endA _ _ _ _ _ _ _); simp -implicitDefEqProofs only [endA])); simp -dsimp -implicitDefEqProofs (maxSteps := 1000000) (disch := first | omega | (simp only [LN]; omega)) only [go_sem, Int.reduceToNat, Int.reducePow, Nat.reducePow, Int.reduceAdd, Int.reduceMul, Int.reduceSub, Int.reduceNeg, Nat.reduceAdd, Nat.reduceMul, Nat.reduceSub, Nat.reduceEqDiff, Nat.reduceLT, Nat.reduceLeDiff])
    | ((first | (with_reducible refine r_ret ?_) | (with_reducible refine pick_viewG default (by first | omega | (simp only [LN]; omega)) (by first | omega | (simp only [LN]; omega)) ?_) | (with_reducible refine pick_own default (by first | omega | (simp only [LN]; omega)) ?_) | (with_reducible refine And.intro (by first | decide | omega | assumption | (simp only [LN]; omega)) ?_) | ((with_reducible show pickE _ _ _); first | refine pickE_intro _ ⟨by omega, by rfl⟩ ?_ | refine pickE_intro _ (by rfl) ?_) | fail); try simp -dsimp -implicitDefEqProofs (maxSteps := 1000000) (disch := first | omega | (simp only [LN]; omega)) only [go_sem, Int.reduceToNat, Int.reducePow, Nat.reducePow, Int.reduceAdd, Int.reduceMul, Int.reduceSub, Int.reduceNeg, Nat.reduceAdd, Nat.reduceMul, Nat.reduceSub, Nat.reduceEqDiff, Nat.reduceLT, Nat.reduceLeDiff])
    | fail)
  refine r_loopA (α := Nat) [0, 1] (fun i b => [(5, .sl b 1 0 (diffM p q i).length), (6, aI i)]) (fun i b => []) (fun i => [.arr 1 ((diffM p q i).map eN)]) (fun i => i ≤ max (p.length / 64) (q.length / 64)) (fun i => max (p.length / 64) (q.length / 64) - i) (0) ?h0_1 ?hs0_1 ?I_1 ?hI_1 ?round_1
  case hI_1 => intro x; (simp -dsimp -implicitDefEqProofs (maxSteps := 1000000) (disch := first | omega | (simp only [LN]; omega)) only [go_sem, Int.reduceToNat, Int.reducePow, Nat.reducePow, Int.reduceAdd, Int.reduceMul, Int.reduceSub, Int.reduceNeg, Nat.reduceAdd, Nat.reduceMul, Nat.reduceSub, Nat.reduceEqDiff, Nat.reduceLT, Nat.reduceLeDiff]) <;> exact rfl
  case hs0_1 => refine wk_auto ?_; (simp -dsimp -implicitDefEqProofs (maxSteps := 1000000) (disch := first | omega | (simp only [LN, diff_0]; omega)) only [go_sem, Int.reduceToNat, Int.reducePow, Nat.reducePow, Int.reduceAdd, Int.reduceMul, Int.reduceSub, Int.reduceNeg, Nat.reduceAdd, Nat.reduceMul, Nat.reduceSub, Nat.reduceEqDiff, Nat.reduceLT, Nat.reduceLeDiff, diff_0]) <;> (try omega)
  case h0_1 => exact Nat.zero_le _
  case round_1 =>
    intro i h1
    have hl := diff_len p q i
    repeat' (first
      | (with_reducible first | refine r_seq ?_ | refine r_block ?_ | refine fork_not ?_ | refine fork_and ?_ | refine fork_or ?_ | refine chk_ok (by kernel_rfl) ?_)
      | ((with_reducible first | refine fork_dec ?_ ?_ | refine fork_eq ?_ ?_ | refine fork_ne ?_ ?_ | refine fork_intro ?_ ?_) <;> intro h)
      | ((with_reducible show False); omega)
      | ((first | (with_reducible first | refine r_exit ?_ | refine r_skip ?_ | refine r_cond ?_ | refine r_region ?_ | show VX _ _ _ _ _ _ _ | show vstep _ _ _ _ _ | show vskip _ _ _ | show withV _ _) | ((with_reducible show endA _ _ _ _ _ _ _); simp -implicitDefEqProofs only [endA])); simp -dsimp -implicitDefEqProofs (maxSteps := 1000000) (disch := first | omega | (simp only [LN]; omega)) only [go_sem, Int.reduceToNat, Int.reducePow, Nat.reducePow, Int.reduceAdd, Int.reduceMul, Int.reduceSub, Int.reduceNeg, Nat.reduceAdd, Nat.reduceMul, Nat.reduceSub, Nat.reduceEqDiff, Nat.reduceLT, Nat.reduceLeDiff])
      | ((first | (with_reducible refine r_ret ?_) | (with_reducible refine pick_viewG default (by first | omega | (simp only [LN]; omega)) (by first | omega | (simp only [LN]; omega)) ?_) | (with_reducible refine pick_own default (by first | omega | (simp only [LN]; omega)) ?_) | (with_reducible refine And.intro (by first | decide | omega | assumption | (simp only [LN]; omega)) ?_) | ((with_reducible show pickE _ _ _); first | refine pickE_intro _ ⟨by omega, by rfl⟩ ?_ | refine pickE_intro _ (by rfl) ?_) | fail); try simp -dsimp -implicitDefEqProofs (maxSteps := 1000000) (disch := first | omega | (simp only [LN]; omega)) only [go_sem, Int.reduceToNat, Int.reducePow, Nat.reducePow, Int.reduceAdd, Int.reduceMul, Int.reduceSub, Int.reduceNeg, Nat.reduceAdd, Nat.reduceMul, Nat.reduceSub, Nat.reduceEqDiff, Nat.reduceLT, Nat.reduceLeDiff])
      | fail)
    · have e0 : eqB p q i 0 = decide ((64 : Int) * i < q.length) := by
        rw [eqB, decide_eq_true (by omega), Bool.true_and]
        by_cases h2 : 64 * i < q.length
        · rw [decide_eq_true h2, decide_eq_true (by omega)]
        · rw [decide_eq_false h2, decide_eq_false (by omega)]
      refine r_loopA (α := Nat) [0, 1, 5, 6] (fun j b => [(7, .p (.v (.bool (eqB p q i j)))), (8, aI (64 * i + j))]) (fun j b => []) (fun j => []) (fun j => j ≤ 64) (fun j => 64 - j) (0) ?h0_2 ?hs0_2 ?I_2 ?hI_2 ?round_2
      case hI_2 => intro x; (simp -dsimp -implicitDefEqProofs (maxSteps := 1000000) (disch := first | omega | (simp only [LN]; omega)) only [go_sem, Int.reduceToNat, Int.reducePow, Nat.reducePow, Int.reduceAdd, Int.reduceMul, Int.reduceSub, Int.reduceNeg, Nat.reduceAdd, Nat.reduceMul, Nat.reduceSub, Nat.reduceEqDiff, Nat.reduceLT, Nat.reduceLeDiff]) <;> exact rfl
      case hs0_2 => refine wk_auto ?_; (simp -dsimp -implicitDefEqProofs (maxSteps := 1000000) (disch := first | omega | (simp only [LN, e0]; omega)) only [go_sem, Int.reduceToNat, Int.reducePow, Nat.reducePow, Int.reduceAdd, Int.reduceMul, Int.reduceSub, Int.reduceNeg, Nat.reduceAdd, Nat.reduceMul, Nat.reduceSub, Nat.reduceEqDiff, Nat.reduceLT, Nat.reduceLeDiff, e0]) <;> (try omega)
      case h0_2 => exact Nat.zero_le _
      case round_2 =>
        intro j hj
        have hin : eqB p q i j = true → 64 * i + 64 ≤ p.length ∧ 64 * i + 64 ≤ q.length := fun h => by
          have := (eqB_iff p q i j).1 h
          omega
        by_cases hb : eqB p q i j = true
        · have hin2 := hin hb
          repeat' (first
            | (with_reducible first | refine r_seq ?_ | refine r_block ?_ | refine fork_not ?_ | refine fork_and ?_ | refine fork_or ?_ | refine chk_ok (by kernel_rfl) ?_)
            | ((with_reducible first | refine fork_dec ?_ ?_ | refine fork_eq ?_ ?_ | refine fork_ne ?_ ?_ | refine fork_intro ?_ ?_) <;> intro h)
            | ((with_reducible show False); omega)
            | ((first | (with_reducible first | refine r_exit ?_ | refine r_skip ?_ | refine r_cond ?_ | refine r_region ?_ | show VX _ _ _ _ _ _ _ | show vstep _ _ _ _ _ | show vskip _ _ _ | show withV _ _) | ((with_reducible show endA _ _ _ _ _ _ _); simp -implicitDefEqProofs only [endA])); simp -dsimp -implicitDefEqProofs (maxSteps := 1000000) (disch := first | omega | (simp only [LN, hb]; omega)) only [go_sem, Int.reduceToNat, Int.reducePow, Nat.reducePow, Int.reduceAdd, Int.reduceMul, Int.reduceSub, Int.reduceNeg, Nat.reduceAdd, Nat.reduceMul, Nat.reduceSub, Nat.reduceEqDiff, Nat.reduceLT, Nat.reduceLeDiff, hb])
            | ((first | (with_reducible refine r_ret ?_) | (with_reducible refine pick_viewG default (by first | omega | (simp only [LN, hb]; omega)) (by first | omega | (simp only [LN, hb]; omega)) ?_) | (with_reducible refine pick_own default (by first | omega | (simp only [LN, hb]; omega)) ?_) | (with_reducible refine And.intro (by first | decide | omega | assumption | (simp only [LN, hb]; omega)) ?_) | ((with_reducible show pickE _ _ _); first | refine pickE_intro _ ⟨by omega, by rfl⟩ ?_ | refine pickE_intro _ (by rfl) ?_) | fail); try simp -dsimp -implicitDefEqProofs (maxSteps := 1000000) (disch := first | omega | (simp only [LN, hb]; omega)) only [go_sem, Int.reduceToNat, Int.reducePow, Nat.reducePow, Int.reduceAdd, Int.reduceMul, Int.reduceSub, Int.reduceNeg, Nat.reduceAdd, Nat.reduceMul, Nat.reduceSub, Nat.reduceEqDiff, Nat.reduceLT, Nat.reduceLeDiff, hb])
            | fail)
          · (refine loopQ_next (j + 1) ?_ ?_ ?_; (omega); (show _ < _; omega); (simp -dsimp -implicitDefEqProofs (maxSteps := 1000000) (disch := first | omega | (simp only [LN]; omega)) only [go_sem, Int.reduceToNat, Int.reducePow, Nat.reducePow, Int.reduceAdd, Int.reduceMul, Int.reduceSub, Int.reduceNeg, Nat.reduceAdd, Nat.reduceMul, Nat.reduceSub, Nat.reduceEqDiff, Nat.reduceLT, Nat.reduceLeDiff]; try trivial))
            refine ⟨?_, by congr 1 <;> omega⟩
            rw [show (64 * (i : Int) + (j : Int)).toNat = 64 * i + j by omega, step_in (l := p) (by omega), step_in (l := q) (by omega), byte_eq, eqB, hb, Bool.true_and]
          · have e := diff_neg (a := p) (b := q) (k := i) (by rw [dif_eqB hp64 hq64, show (64 : Nat) = j by omega, hb]; rfl)
            (refine loopQ_next (i + 1) ?_ ?_ ?_; (omega); (show _ < _; omega); (simp -dsimp -implicitDefEqProofs (maxSteps := 1000000) (disch := first | omega | (simp only [LN, e]; omega)) only [go_sem, Int.reduceToNat, Int.reducePow, Nat.reducePow, Int.reduceAdd, Int.reduceMul, Int.reduceSub, Int.reduceNeg, Nat.reduceAdd, Nat.reduceMul, Nat.reduceSub, Nat.reduceEqDiff, Nat.reduceLT, Nat.reduceLeDiff, e]; try trivial))
        · have hb' : eqB p q i j = false := by simpa using hb
          repeat' (first
            | (with_reducible first | refine r_seq ?_ | refine r_block ?_ | refine fork_not ?_ | refine fork_and ?_ | refine fork_or ?_ | refine chk_ok (by kernel_rfl) ?_)
            | ((with_reducible first | refine fork_dec ?_ ?_ | refine fork_eq ?_ ?_ | refine fork_ne ?_ ?_ | refine fork_intro ?_ ?_) <;> intro h)
            | ((with_reducible show False); omega)
            | ((first | (with_reducible first | refine r_exit ?_ | refine r_skip ?_ | refine r_cond ?_ | refine r_region ?_ | show VX _ _ _ _ _ _ _ | show vstep _ _ _ _ _ | show vskip _ _ _ | show withV _ _) | ((with_reducible show endA _ _ _ _ _ _ _); simp -implicitDefEqProofs only [endA])); simp -dsimp -implicitDefEqProofs (maxSteps := 1000000) (disch := first | omega | (simp only [LN, hb']; omega)) only [go_sem, Int.reduceToNat, Int.reducePow, Nat.reducePow, Int.reduceAdd, Int.reduceMul, Int.reduceSub, Int.reduceNeg, Nat.reduceAdd, Nat.reduceMul, Nat.reduceSub, Nat.reduceEqDiff, Nat.reduceLT, Nat.reduceLeDiff, hb'])
            | ((first | (with_reducible refine r_ret ?_) | (with_reducible refine pick_viewG default (by first | omega | (simp only [LN, hb']; omega)) (by first | omega | (simp only [LN, hb']; omega)) ?_) | (with_reducible refine pick_own default (by first | omega | (simp only [LN, hb']; omega)) ?_) | (with_reducible refine And.intro (by first | decide | omega | assumption | (simp only [LN, hb']; omega)) ?_) | ((with_reducible show pickE _ _ _); first | refine pickE_intro _ ⟨by omega, by rfl⟩ ?_ | refine pickE_intro _ (by rfl) ?_) | fail); try simp -dsimp -implicitDefEqProofs (maxSteps := 1000000) (disch := first | omega | (simp only [LN, hb']; omega)) only [go_sem, Int.reduceToNat, Int.reducePow, Nat.reducePow, Int.reduceAdd, Int.reduceMul, Int.reduceSub, Int.reduceNeg, Nat.reduceAdd, Nat.reduceMul, Nat.reduceSub, Nat.reduceEqDiff, Nat.reduceLT, Nat.reduceLeDiff, hb'])
            | fail)
          all_goals
            have e := diff_pos (a := p) (b := q) (k := i) (by rw [dif_eqB hp64 hq64, eqB_le hj hb']; rfl)
            (refine loopQ_next (i + 1) ?_ ?_ ?_; (omega); (show _ < _; omega); (simp -dsimp -implicitDefEqProofs (maxSteps := 1000000) (disch := first | omega | (simp only [LN, e, eN]; omega)) only [go_sem, Int.reduceToNat, Int.reducePow, Nat.reducePow, Int.reduceAdd, Int.reduceMul, Int.reduceSub, Int.reduceNeg, Nat.reduceAdd, Nat.reduceMul, Nat.reduceSub, Nat.reduceEqDiff, Nat.reduceLT, Nat.reduceLeDiff, e, eN]; try trivial))
    · have e0 : eqB p q i 0 = false := by
        rw [eqB, decide_eq_false (by omega), Bool.false_and]
      refine r_loopA (α := Nat) [0, 1, 5, 6] (fun j b => [(7, .p (.v (.bool (eqB p q i j)))), (8, aI (64 * i + j))]) (fun j b => []) (fun j => []) (fun j => j ≤ 64) (fun j => 64 - j) (0) ?h0_3 ?hs0_3 ?I_3 ?hI_3 ?round_3
      case hI_3 => intro x; (simp -dsimp -implicitDefEqProofs (maxSteps := 1000000) (disch := first | omega | (simp only [LN]; omega)) only [go_sem, Int.reduceToNat, Int.reducePow, Nat.reducePow, Int.reduceAdd, Int.reduceMul, Int.reduceSub, Int.reduceNeg, Nat.reduceAdd, Nat.reduceMul, Nat.reduceSub, Nat.reduceEqDiff, Nat.reduceLT, Nat.reduceLeDiff]) <;> exact rfl
      case hs0_3 => refine wk_auto ?_; (simp -dsimp -implicitDefEqProofs (maxSteps := 1000000) (disch := first | omega | (simp only [LN, e0]; omega)) only [go_sem, Int.reduceToNat, Int.reducePow, Nat.reducePow, Int.reduceAdd, Int.reduceMul, Int.reduceSub, Int.reduceNeg, Nat.reduceAdd, Nat.reduceMul, Nat.reduceSub, Nat.reduceEqDiff, Nat.reduceLT, Nat.reduceLeDiff, e0]) <;> (try omega)
      case h0_3 => exact Nat.zero_le _
      case round_3 =>
        intro j hj
        have hb' : eqB p q i j = false := eqB_le (Nat.zero_le j) e0
        repeat' (first
          | (with_reducible first | refine r_seq ?_ | refine r_block ?_ | refine fork_not ?_ | refine fork_and ?_ | refine fork_or ?_ | refine chk_ok (by kernel_rfl) ?_)
          | ((with_reducible first | refine fork_dec ?_ ?_ | refine fork_eq ?_ ?_ | refine fork_ne ?_ ?_ | refine fork_intro ?_ ?_) <;> intro h)
          | ((with_reducible show False); omega)
          | ((first | (with_reducible first | refine r_exit ?_ | refine r_skip ?_ | refine r_cond ?_ | refine r_region ?_ | show VX _ _ _ _ _ _ _ | show vstep _ _ _ _ _ | show vskip _ _ _ | show withV _ _) | ((with_reducible show endA _ _ _ _ _ _ _); simp -implicitDefEqProofs only [endA])); simp -dsimp -implicitDefEqProofs (maxSteps := 1000000) (disch := first | omega | (simp only [LN, hb']; omega)) only [go_sem, Int.reduceToNat, Int.reducePow, Nat.reducePow, Int.reduceAdd, Int.reduceMul, Int.reduceSub, Int.reduceNeg, Nat.reduceAdd, Nat.reduceMul, Nat.reduceSub, Nat.reduceEqDiff, Nat.reduceLT, Nat.reduceLeDiff, hb'])
          | ((first | (with_reducible refine r_ret ?_) | (with_reducible refine pick_viewG default (by first | omega | (simp only [LN, hb']; omega)) (by first | omega | (simp only [LN, hb']; omega)) ?_) | (with_reducible refine pick_own default (by first | omega | (simp only [LN, hb']; omega)) ?_) | (with_reducible refine And.intro (by first | decide | omega | assumption | (simp only [LN, hb']; omega)) ?_) | ((with_reducible show pickE _ _ _); first | refine pickE_intro _ ⟨by omega, by rfl⟩ ?_ | refine pickE_intro _ (by rfl) ?_) | fail); try simp -dsimp -implicitDefEqProofs (maxSteps := 1000000) (disch := first | omega | (simp only [LN, hb']; omega)) only [go_sem, Int.reduceToNat, Int.reducePow, Nat.reducePow, Int.reduceAdd, Int.reduceMul, Int.reduceSub, Int.reduceNeg, Nat.reduceAdd, Nat.reduceMul, Nat.reduceSub, Nat.reduceEqDiff, Nat.reduceLT, Nat.reduceLeDiff, hb'])
          | fail)
        all_goals
          have e := diff_pos (a := p) (b := q) (k := i) (by rw [dif_eqB hp64 hq64, eqB_le hj hb']; rfl)
          (refine loopQ_next (i + 1) ?_ ?_ ?_; (omega); (show _ < _; omega); (simp -dsimp -implicitDefEqProofs (maxSteps := 1000000) (disch := first | omega | (simp only [LN, e, eN]; omega)) only [go_sem, Int.reduceToNat, Int.reducePow, Nat.reducePow, Int.reduceAdd, Int.reduceMul, Int.reduceSub, Int.reduceNeg, Nat.reduceAdd, Nat.reduceMul, Nat.reduceSub, Nat.reduceEqDiff, Nat.reduceLT, Nat.reduceLeDiff, e, eN]; try trivial))
    · rw [show i = max (p.length / 64) (q.length / 64) by omega]
theorem dif_comm (p q : List UInt8) (n : Nat) : difM p q n = difM q p n := by
  unfold difM
  congr 1
  apply propext
  constructor
  · rintro (h | h | h)
    · exact .inr (.inl h)
    · exact .inl h
    · exact .inr (.inr fun e => h e.symm)
  · rintro (h | h | h)
    · exact .inr (.inl h)
    · exact .inl h
    · exact .inr (.inr fun e => h e.symm)
theorem diff_comm (p q : List UInt8) (k : Nat) : diffM p q k = diffM q p k := by
  unfold diffM; congr 1; funext n; exact dif_comm p q n
theorem diff_self (p : List UInt8) : diffM p p (max (p.length / 64) (p.length / 64)) = [] := by
  unfold diffM
  rw [List.filter_eq_nil_iff]
  intro n hn
  have : n < p.length / 64 := by simpa using hn
  unfold difM
  simp; omega
theorem lines_eq {p q : List UInt8} (hp : p.length % 64 = 0) (hq : q.length % 64 = 0) (h : diffM p q (max (p.length / 64) (q.length / 64)) = []) : p = q := by
  unfold diffM at h
  rw [List.filter_eq_nil_iff] at h
  have hn : ∀ n, n < max (p.length / 64) (q.length / 64) → difM p q n = false := fun n hn => by
    have := h n (List.mem_range.2 hn)
    simpa using this
  have hl : p.length = q.length := by
    rcases Nat.lt_trichotomy p.length q.length with h1 | h1 | h1
    · have h2 := hn (p.length / 64) (by omega)
      rw [difM, decide_eq_false_iff_not] at h2
      exact absurd (.inl (by omega)) h2
    · exact h1
    · have h2 := hn (q.length / 64) (by omega)
      rw [difM, decide_eq_false_iff_not] at h2
      exact absurd (.inr (.inl (by omega))) h2
  apply List.ext_getElem hl
  intro k h1 h2
  have h3 := hn (k / 64) (by omega)
  rw [dif_eqB hp hq] at h3
  have h4 := ((eqB_iff p q (k / 64) 64).1 (by simpa using h3)).2.2 (k % 64) (by omega)
  rw [show 64 * (k / 64) + k % 64 = k by omega, List.getD_eq_getElem?_getD, List.getD_eq_getElem?_getD, List.getElem?_eq_getElem h1, List.getElem?_eq_getElem h2] at h4
  exact h4
attribute [local irreducible] newM newE resM wholeM diffM rM
set_option maxRecDepth 100000 in
set_option maxHeartbeats 4000000 in
theorem c5 (p q : List UInt8) (near : Bool) : PCalls Tryd.prog 5 [.view 1 (p.map eB), .view 1 (q.map eB), .v (.bool near)] (.v (.bool true)) := by
  refine pcalls_facts ⟨_, rfl, rfl, by decide⟩ fun hf => ?_
  simp only [go_sem, big] at hf
  refine pcalls_of (E := E) (fn := Tryd.f5) 105 [.tmp 6] rfl rfl rfl rfl (by decide) rfl ?_
  have k18 := c18 p
  have k18' := c18 q
  have hwp := whole_len p
  have hwq := whole_len q
  generalize hp0 : wholeM p = a at *
  generalize hq0 : wholeM q = b at *
  have k20 := c20 a (b.length / 64) (by omega)
  have hr := rM_len a (64 * (b.length / 64))
  have key : ∀ b2 : List UInt8, b2.length ≤ 2560 → b2.length % 64 = 0 → (newM b2 = b2 ∧ newE b2 = 0) := fun b2 h1 h2 => ⟨new_ok h2 (by omega), newE_ok h2 (by omega)⟩
  obtain ⟨e1, e2⟩ := key a hwp.1 hwp.2
  obtain ⟨e3, e4⟩ := key b hwq.1 hwq.2
  obtain ⟨e5, e6⟩ := key (rM a (64 * (b.length / 64))) (by omega) (by omega)
  cases near
  · skip
    have hc2 : b.length ≤ 2560 ∧ b.length % 64 = 0 := by omega
    have k22 := c22 a b (by omega) (by omega) hwp.2 hc2.2
    have k23 := c23 a b (by omega) (by omega)
    have k23' := c23 b a (by omega) (by omega)
    rw [diff_comm b a, Nat.max_comm] at k23'
    have l1 := diff_len a b (max (a.length / 64) (b.length / 64))
    have hiff : diffM a b (max (a.length / 64) (b.length / 64)) = [] ↔ a = b := ⟨fun h => lines_eq hwp.2 hc2.2 h, fun h => by rw [← h]; exact diff_self a⟩
    generalize hd : diffM a b (max (a.length / 64) (b.length / 64)) = d at *
    repeat' (first
      | (with_reducible first | refine r_seq ?_ | refine r_block ?_ | refine fork_not ?_ | refine fork_and ?_ | refine fork_or ?_ | refine chk_ok (by kernel_rfl) ?_)
      | ((with_reducible first | refine fork_dec ?_ ?_ | refine fork_eq ?_ ?_ | refine fork_ne ?_ ?_ | refine fork_intro ?_ ?_) <;> intro h <;> try (exfalso; first | omega | exact h rfl | (revert h; decide) | (cases h; done)))
      | ((with_reducible show False); omega)
      | ((first | (with_reducible first | refine r_exit ?_ | refine r_skip ?_ | refine r_cond ?_ | refine r_region ?_ | show VX _ _ _ _ _ _ _ | show vstep _ _ _ _ _ | show vskip _ _ _ | show withV _ _) | ((with_reducible show endA _ _ _ _ _ _ _); simp -implicitDefEqProofs only [endA])); simp -dsimp -implicitDefEqProofs (maxSteps := 1000000) (disch := first | omega | (simp only [LN, e1, e2, e3, e4, e5, e6]; omega)) only [go_sem, Int.reduceToNat, Int.reducePow, Nat.reducePow, Int.reduceAdd, Int.reduceMul, Int.reduceSub, Int.reduceNeg, Nat.reduceAdd, Nat.reduceMul, Nat.reduceSub, Nat.reduceEqDiff, Nat.reduceLT, Nat.reduceLeDiff, e1, e2, e3, e4, e5, e6])
      | ((first | (with_reducible refine r_ret ?_) | (with_reducible refine pick_viewG default (by first | omega | (simp only [LN, e1, e2, e3, e4, e5, e6]; omega)) (by first | omega | (simp only [LN, e1, e2, e3, e4, e5, e6]; omega)) ?_) | (with_reducible refine pick_own default (by first | omega | (simp only [LN, e1, e2, e3, e4, e5, e6]; omega)) ?_) | (with_reducible refine And.intro (by first | decide | omega | assumption | (simp only [LN, e1, e2, e3, e4, e5, e6]; omega)) ?_) | ((with_reducible apply callK_pure); (first | exact c13 | exact k18 | exact k18' | exact c14 a | exact c14 b | exact k22 | exact k23 | exact k23' | fail)) | ((with_reducible apply callF_lend); (first | exact c13 | exact k18 | exact k18' | exact c14 a | exact c14 b | exact k22 | exact k23 | exact k23' | fail); rfl) | ((with_reducible apply callF_go); (first | exact c13 | exact k18 | exact k18' | exact c14 a | exact c14 b | exact k22 | exact k23 | exact k23' | fail)) | ((with_reducible show pickE _ _ _); first | refine pickE_intro _ ⟨by omega, by rfl⟩ ?_ | refine pickE_intro _ (by rfl) ?_) | fail); try simp -dsimp -implicitDefEqProofs (maxSteps := 1000000) (disch := first | omega | (simp only [LN, e1, e2, e3, e4, e5, e6]; omega)) only [go_sem, Int.reduceToNat, Int.reducePow, Nat.reducePow, Int.reduceAdd, Int.reduceMul, Int.reduceSub, Int.reduceNeg, Nat.reduceAdd, Nat.reduceMul, Nat.reduceSub, Nat.reduceEqDiff, Nat.reduceLT, Nat.reduceLeDiff, e1, e2, e3, e4, e5, e6])
      | fail)
    refine r_loopA (α := Nat) [7, 9, 11, 12, 13, 59] (fun k b => [(60, aI k)]) (fun k b => []) (fun k => []) (fun k => k ≤ d.length) (fun k => d.length - k) (0) ?h0_4 ?hs0_4 ?I_4 ?hI_4 ?round_4
    case hI_4 => intro x; (simp -dsimp -implicitDefEqProofs (maxSteps := 1000000) (disch := first | omega | (simp only [LN]; omega)) only [go_sem, Int.reduceToNat, Int.reducePow, Nat.reducePow, Int.reduceAdd, Int.reduceMul, Int.reduceSub, Int.reduceNeg, Nat.reduceAdd, Nat.reduceMul, Nat.reduceSub, Nat.reduceEqDiff, Nat.reduceLT, Nat.reduceLeDiff]) <;> exact rfl
    case hs0_4 => refine wk_auto ?_; (simp -dsimp -implicitDefEqProofs (maxSteps := 1000000) (disch := first | omega | (simp only [LN]; omega)) only [go_sem, Int.reduceToNat, Int.reducePow, Nat.reducePow, Int.reduceAdd, Int.reduceMul, Int.reduceSub, Int.reduceNeg, Nat.reduceAdd, Nat.reduceMul, Nat.reduceSub, Nat.reduceEqDiff, Nat.reduceLT, Nat.reduceLeDiff]) <;> (try omega)
    case h0_4 => exact Nat.zero_le _
    case round_4 =>
      intro k hk
      by_cases hac : a = b
      · have hd0 : d = [] := hiff.2 hac
        repeat' (first
          | (with_reducible first | refine r_seq ?_ | refine r_block ?_ | refine fork_not ?_ | refine fork_and ?_ | refine fork_or ?_ | refine chk_ok (by kernel_rfl) ?_)
          | ((with_reducible first | refine fork_dec ?_ ?_ | refine fork_eq ?_ ?_ | refine fork_ne ?_ ?_ | refine fork_intro ?_ ?_) <;> intro h <;> try (exfalso; first | omega | exact h rfl | (revert h; decide) | (cases h; done)))
          | ((with_reducible show False); omega)
          | ((first | (with_reducible first | refine r_exit ?_ | refine r_skip ?_ | refine r_cond ?_ | refine r_region ?_ | show VX _ _ _ _ _ _ _ | show vstep _ _ _ _ _ | show vskip _ _ _ | show withV _ _) | ((with_reducible show endA _ _ _ _ _ _ _); simp -implicitDefEqProofs only [endA])); simp -dsimp -implicitDefEqProofs (maxSteps := 1000000) (disch := first | omega | (simp only [LN, hac, hd0, decide_true, List.length_nil]; omega)) only [go_sem, Int.reduceToNat, Int.reducePow, Nat.reducePow, Int.reduceAdd, Int.reduceMul, Int.reduceSub, Int.reduceNeg, Nat.reduceAdd, Nat.reduceMul, Nat.reduceSub, Nat.reduceEqDiff, Nat.reduceLT, Nat.reduceLeDiff, hac, hd0, decide_true, List.length_nil])
          | ((first | (with_reducible refine r_ret ?_) | (with_reducible refine pick_viewG default (by first | omega | (simp only [LN, hac, hd0, decide_true, List.length_nil]; omega)) (by first | omega | (simp only [LN, hac, hd0, decide_true, List.length_nil]; omega)) ?_) | (with_reducible refine pick_own default (by first | omega | (simp only [LN, hac, hd0, decide_true, List.length_nil]; omega)) ?_) | (with_reducible refine And.intro (by first | decide | omega | assumption | (simp only [LN, hac, hd0, decide_true, List.length_nil]; omega)) ?_) | ((with_reducible apply callK_pure); (exact c21 b b)) | ((with_reducible apply callF_lend); (exact c21 b b); rfl) | ((with_reducible apply callF_go); (exact c21 b b)) | ((with_reducible show pickE _ _ _); first | refine pickE_intro _ ⟨by omega, by rfl⟩ ?_ | refine pickE_intro _ (by rfl) ?_) | fail); try simp -dsimp -implicitDefEqProofs (maxSteps := 1000000) (disch := first | omega | (simp only [LN, hac, hd0, decide_true, List.length_nil]; omega)) only [go_sem, Int.reduceToNat, Int.reducePow, Nat.reducePow, Int.reduceAdd, Int.reduceMul, Int.reduceSub, Int.reduceNeg, Nat.reduceAdd, Nat.reduceMul, Nat.reduceSub, Nat.reduceEqDiff, Nat.reduceLT, Nat.reduceLeDiff, hac, hd0, decide_true, List.length_nil])
          | fail)
        all_goals first | rfl | trace_state
      · have hd0 : ¬ d.length = 0 := fun h => hac (hiff.1 (List.length_eq_zero_iff.1 h))
        have hca : ¬ b = a := fun h => hac h.symm
        repeat' (first
          | (with_reducible first | refine r_seq ?_ | refine r_block ?_ | refine fork_not ?_ | refine fork_and ?_ | refine fork_or ?_ | refine chk_ok (by kernel_rfl) ?_)
          | ((with_reducible first | refine fork_dec ?_ ?_ | refine fork_eq ?_ ?_ | refine fork_ne ?_ ?_ | refine fork_intro ?_ ?_) <;> intro h <;> try (exfalso; first | omega | exact h rfl | (revert h; decide) | (cases h; done)))
          | ((with_reducible show False); omega)
          | ((first | (with_reducible first | refine r_exit ?_ | refine r_skip ?_ | refine r_cond ?_ | refine r_region ?_ | show VX _ _ _ _ _ _ _ | show vstep _ _ _ _ _ | show vskip _ _ _ | show withV _ _) | ((with_reducible show endA _ _ _ _ _ _ _); simp -implicitDefEqProofs only [endA])); simp -dsimp -implicitDefEqProofs (maxSteps := 1000000) (disch := first | omega | (simp only [LN, hac, hca, hd0, eN, decide_true, decide_false]; omega)) only [go_sem, Int.reduceToNat, Int.reducePow, Nat.reducePow, Int.reduceAdd, Int.reduceMul, Int.reduceSub, Int.reduceNeg, Nat.reduceAdd, Nat.reduceMul, Nat.reduceSub, Nat.reduceEqDiff, Nat.reduceLT, Nat.reduceLeDiff, hac, hca, hd0, eN, decide_true, decide_false])
          | ((first | (with_reducible refine r_ret ?_) | (with_reducible refine pick_viewG default (by first | omega | (simp only [LN, hac, hca, hd0, eN, decide_true, decide_false]; omega)) (by first | omega | (simp only [LN, hac, hca, hd0, eN, decide_true, decide_false]; omega)) ?_) | (with_reducible refine pick_own default (by first | omega | (simp only [LN, hac, hca, hd0, eN, decide_true, decide_false]; omega)) ?_) | (with_reducible refine And.intro (by first | decide | omega | assumption | (simp only [LN, hac, hca, hd0, eN, decide_true, decide_false]; omega)) ?_) | ((with_reducible apply callK_pure); (first | exact c21 a b | exact c21 b a | exact c21 a a | fail)) | ((with_reducible apply callF_lend); (first | exact c21 a b | exact c21 b a | exact c21 a a | fail); rfl) | ((with_reducible apply callF_go); (first | exact c21 a b | exact c21 b a | exact c21 a a | fail)) | ((with_reducible show pickE _ _ _); first | refine pickE_intro _ ⟨by omega, by rfl⟩ ?_ | refine pickE_intro _ (by rfl) ?_) | fail); try simp -dsimp -implicitDefEqProofs (maxSteps := 1000000) (disch := first | omega | (simp only [LN, hac, hca, hd0, eN, decide_true, decide_false]; omega)) only [go_sem, Int.reduceToNat, Int.reducePow, Nat.reducePow, Int.reduceAdd, Int.reduceMul, Int.reduceSub, Int.reduceNeg, Nat.reduceAdd, Nat.reduceMul, Nat.reduceSub, Nat.reduceEqDiff, Nat.reduceLT, Nat.reduceLeDiff, hac, hca, hd0, eN, decide_true, decide_false])
          | fail)
        · (refine loopQ_next (k + 1) ?_ ?_ ?_; (omega); (show _ < _; omega); (simp -dsimp -implicitDefEqProofs (maxSteps := 1000000) (disch := first | omega | (simp only [LN]; omega)) only [go_sem, Int.reduceToNat, Int.reducePow, Nat.reducePow, Int.reduceAdd, Int.reduceMul, Int.reduceSub, Int.reduceNeg, Nat.reduceAdd, Nat.reduceMul, Nat.reduceSub, Nat.reduceEqDiff, Nat.reduceLT, Nat.reduceLeDiff]; try trivial))
        all_goals (exfalso; apply h; have hz : ((d.length : Int) == 0) = false := beq_eq_false_iff_ne.2 (by omega); exact hz.symm)
  · generalize hrm : rM a (64 * (b.length / 64)) = c at *
    have hc2 : c.length ≤ 2560 ∧ c.length % 64 = 0 := by omega
    have k22 := c22 a c (by omega) (by omega) hwp.2 hc2.2
    have k23 := c23 a c (by omega) (by omega)
    have k23' := c23 c a (by omega) (by omega)
    rw [diff_comm c a, Nat.max_comm] at k23'
    have l1 := diff_len a c (max (a.length / 64) (c.length / 64))
    have hiff : diffM a c (max (a.length / 64) (c.length / 64)) = [] ↔ a = c := ⟨fun h => lines_eq hwp.2 hc2.2 h, fun h => by rw [← h]; exact diff_self a⟩
    generalize hd : diffM a c (max (a.length / 64) (c.length / 64)) = d at *
    repeat' (first
      | (with_reducible first | refine r_seq ?_ | refine r_block ?_ | refine fork_not ?_ | refine fork_and ?_ | refine fork_or ?_ | refine chk_ok (by kernel_rfl) ?_)
      | ((with_reducible first | refine fork_dec ?_ ?_ | refine fork_eq ?_ ?_ | refine fork_ne ?_ ?_ | refine fork_intro ?_ ?_) <;> intro h <;> try (exfalso; first | omega | exact h rfl | (revert h; decide) | (cases h; done)))
      | ((with_reducible show False); omega)
      | ((first | (with_reducible first | refine r_exit ?_ | refine r_skip ?_ | refine r_cond ?_ | refine r_region ?_ | show VX _ _ _ _ _ _ _ | show vstep _ _ _ _ _ | show vskip _ _ _ | show withV _ _) | ((with_reducible show endA _ _ _ _ _ _ _); simp -implicitDefEqProofs only [endA])); simp -dsimp -implicitDefEqProofs (maxSteps := 1000000) (disch := first | omega | (simp only [LN, e1, e2, e3, e4, e5, e6]; omega)) only [go_sem, Int.reduceToNat, Int.reducePow, Nat.reducePow, Int.reduceAdd, Int.reduceMul, Int.reduceSub, Int.reduceNeg, Nat.reduceAdd, Nat.reduceMul, Nat.reduceSub, Nat.reduceEqDiff, Nat.reduceLT, Nat.reduceLeDiff, e1, e2, e3, e4, e5, e6])
      | ((first | (with_reducible refine r_ret ?_) | (with_reducible refine pick_viewG default (by first | omega | (simp only [LN, e1, e2, e3, e4, e5, e6]; omega)) (by first | omega | (simp only [LN, e1, e2, e3, e4, e5, e6]; omega)) ?_) | (with_reducible refine pick_own default (by first | omega | (simp only [LN, e1, e2, e3, e4, e5, e6]; omega)) ?_) | (with_reducible refine And.intro (by first | decide | omega | assumption | (simp only [LN, e1, e2, e3, e4, e5, e6]; omega)) ?_) | ((with_reducible apply callK_pure); (first | exact c13 | exact k18 | exact k18' | exact k20 | exact c14 b | exact c14 a | exact c14 c | exact k22 | exact k23 | exact k23' | fail)) | ((with_reducible apply callF_lend); (first | exact c13 | exact k18 | exact k18' | exact k20 | exact c14 b | exact c14 a | exact c14 c | exact k22 | exact k23 | exact k23' | fail); rfl) | ((with_reducible apply callF_go); (first | exact c13 | exact k18 | exact k18' | exact k20 | exact c14 b | exact c14 a | exact c14 c | exact k22 | exact k23 | exact k23' | fail)) | ((with_reducible show pickE _ _ _); first | refine pickE_intro _ ⟨by omega, by rfl⟩ ?_ | refine pickE_intro _ (by rfl) ?_) | fail); try simp -dsimp -implicitDefEqProofs (maxSteps := 1000000) (disch := first | omega | (simp only [LN, e1, e2, e3, e4, e5, e6]; omega)) only [go_sem, Int.reduceToNat, Int.reducePow, Nat.reducePow, Int.reduceAdd, Int.reduceMul, Int.reduceSub, Int.reduceNeg, Nat.reduceAdd, Nat.reduceMul, Nat.reduceSub, Nat.reduceEqDiff, Nat.reduceLT, Nat.reduceLeDiff, e1, e2, e3, e4, e5, e6])
      | fail)
    refine r_loopA (α := Nat) [7, 9, 11, 12, 13, 59] (fun k b => [(60, aI k)]) (fun k b => []) (fun k => []) (fun k => k ≤ d.length) (fun k => d.length - k) (0) ?h0_5 ?hs0_5 ?I_5 ?hI_5 ?round_5
    case hI_5 => intro x; (simp -dsimp -implicitDefEqProofs (maxSteps := 1000000) (disch := first | omega | (simp only [LN]; omega)) only [go_sem, Int.reduceToNat, Int.reducePow, Nat.reducePow, Int.reduceAdd, Int.reduceMul, Int.reduceSub, Int.reduceNeg, Nat.reduceAdd, Nat.reduceMul, Nat.reduceSub, Nat.reduceEqDiff, Nat.reduceLT, Nat.reduceLeDiff]) <;> exact rfl
    case hs0_5 => refine wk_auto ?_; (simp -dsimp -implicitDefEqProofs (maxSteps := 1000000) (disch := first | omega | (simp only [LN]; omega)) only [go_sem, Int.reduceToNat, Int.reducePow, Nat.reducePow, Int.reduceAdd, Int.reduceMul, Int.reduceSub, Int.reduceNeg, Nat.reduceAdd, Nat.reduceMul, Nat.reduceSub, Nat.reduceEqDiff, Nat.reduceLT, Nat.reduceLeDiff]) <;> (try omega)
    case h0_5 => exact Nat.zero_le _
    case round_5 =>
      intro k hk
      by_cases hac : a = c
      · have hd0 : d = [] := hiff.2 hac
        repeat' (first
          | (with_reducible first | refine r_seq ?_ | refine r_block ?_ | refine fork_not ?_ | refine fork_and ?_ | refine fork_or ?_ | refine chk_ok (by kernel_rfl) ?_)
          | ((with_reducible first | refine fork_dec ?_ ?_ | refine fork_eq ?_ ?_ | refine fork_ne ?_ ?_ | refine fork_intro ?_ ?_) <;> intro h <;> try (exfalso; first | omega | exact h rfl | (revert h; decide) | (cases h; done)))
          | ((with_reducible show False); omega)
          | ((first | (with_reducible first | refine r_exit ?_ | refine r_skip ?_ | refine r_cond ?_ | refine r_region ?_ | show VX _ _ _ _ _ _ _ | show vstep _ _ _ _ _ | show vskip _ _ _ | show withV _ _) | ((with_reducible show endA _ _ _ _ _ _ _); simp -implicitDefEqProofs only [endA])); simp -dsimp -implicitDefEqProofs (maxSteps := 1000000) (disch := first | omega | (simp only [LN, hac, hd0, decide_true, List.length_nil]; omega)) only [go_sem, Int.reduceToNat, Int.reducePow, Nat.reducePow, Int.reduceAdd, Int.reduceMul, Int.reduceSub, Int.reduceNeg, Nat.reduceAdd, Nat.reduceMul, Nat.reduceSub, Nat.reduceEqDiff, Nat.reduceLT, Nat.reduceLeDiff, hac, hd0, decide_true, List.length_nil])
          | ((first | (with_reducible refine r_ret ?_) | (with_reducible refine pick_viewG default (by first | omega | (simp only [LN, hac, hd0, decide_true, List.length_nil]; omega)) (by first | omega | (simp only [LN, hac, hd0, decide_true, List.length_nil]; omega)) ?_) | (with_reducible refine pick_own default (by first | omega | (simp only [LN, hac, hd0, decide_true, List.length_nil]; omega)) ?_) | (with_reducible refine And.intro (by first | decide | omega | assumption | (simp only [LN, hac, hd0, decide_true, List.length_nil]; omega)) ?_) | ((with_reducible apply callK_pure); (exact c21 c c)) | ((with_reducible apply callF_lend); (exact c21 c c); rfl) | ((with_reducible apply callF_go); (exact c21 c c)) | ((with_reducible show pickE _ _ _); first | refine pickE_intro _ ⟨by omega, by rfl⟩ ?_ | refine pickE_intro _ (by rfl) ?_) | fail); try simp -dsimp -implicitDefEqProofs (maxSteps := 1000000) (disch := first | omega | (simp only [LN, hac, hd0, decide_true, List.length_nil]; omega)) only [go_sem, Int.reduceToNat, Int.reducePow, Nat.reducePow, Int.reduceAdd, Int.reduceMul, Int.reduceSub, Int.reduceNeg, Nat.reduceAdd, Nat.reduceMul, Nat.reduceSub, Nat.reduceEqDiff, Nat.reduceLT, Nat.reduceLeDiff, hac, hd0, decide_true, List.length_nil])
          | fail)
        all_goals first | rfl | trace_state
      · have hd0 : ¬ d.length = 0 := fun h => hac (hiff.1 (List.length_eq_zero_iff.1 h))
        have hca : ¬ c = a := fun h => hac h.symm
        repeat' (first
          | (with_reducible first | refine r_seq ?_ | refine r_block ?_ | refine fork_not ?_ | refine fork_and ?_ | refine fork_or ?_ | refine chk_ok (by kernel_rfl) ?_)
          | ((with_reducible first | refine fork_dec ?_ ?_ | refine fork_eq ?_ ?_ | refine fork_ne ?_ ?_ | refine fork_intro ?_ ?_) <;> intro h <;> try (exfalso; first | omega | exact h rfl | (revert h; decide) | (cases h; done)))
          | ((with_reducible show False); omega)
          | ((first | (with_reducible first | refine r_exit ?_ | refine r_skip ?_ | refine r_cond ?_ | refine r_region ?_ | show VX _ _ _ _ _ _ _ | show vstep _ _ _ _ _ | show vskip _ _ _ | show withV _ _) | ((with_reducible show endA _ _ _ _ _ _ _); simp -implicitDefEqProofs only [endA])); simp -dsimp -implicitDefEqProofs (maxSteps := 1000000) (disch := first | omega | (simp only [LN, hac, hca, hd0, eN, decide_true, decide_false]; omega)) only [go_sem, Int.reduceToNat, Int.reducePow, Nat.reducePow, Int.reduceAdd, Int.reduceMul, Int.reduceSub, Int.reduceNeg, Nat.reduceAdd, Nat.reduceMul, Nat.reduceSub, Nat.reduceEqDiff, Nat.reduceLT, Nat.reduceLeDiff, hac, hca, hd0, eN, decide_true, decide_false])
          | ((first | (with_reducible refine r_ret ?_) | (with_reducible refine pick_viewG default (by first | omega | (simp only [LN, hac, hca, hd0, eN, decide_true, decide_false]; omega)) (by first | omega | (simp only [LN, hac, hca, hd0, eN, decide_true, decide_false]; omega)) ?_) | (with_reducible refine pick_own default (by first | omega | (simp only [LN, hac, hca, hd0, eN, decide_true, decide_false]; omega)) ?_) | (with_reducible refine And.intro (by first | decide | omega | assumption | (simp only [LN, hac, hca, hd0, eN, decide_true, decide_false]; omega)) ?_) | ((with_reducible apply callK_pure); (first | exact c21 a c | exact c21 c a | exact c21 a a | fail)) | ((with_reducible apply callF_lend); (first | exact c21 a c | exact c21 c a | exact c21 a a | fail); rfl) | ((with_reducible apply callF_go); (first | exact c21 a c | exact c21 c a | exact c21 a a | fail)) | ((with_reducible show pickE _ _ _); first | refine pickE_intro _ ⟨by omega, by rfl⟩ ?_ | refine pickE_intro _ (by rfl) ?_) | fail); try simp -dsimp -implicitDefEqProofs (maxSteps := 1000000) (disch := first | omega | (simp only [LN, hac, hca, hd0, eN, decide_true, decide_false]; omega)) only [go_sem, Int.reduceToNat, Int.reducePow, Nat.reducePow, Int.reduceAdd, Int.reduceMul, Int.reduceSub, Int.reduceNeg, Nat.reduceAdd, Nat.reduceMul, Nat.reduceSub, Nat.reduceEqDiff, Nat.reduceLT, Nat.reduceLeDiff, hac, hca, hd0, eN, decide_true, decide_false])
          | fail)
        · (refine loopQ_next (k + 1) ?_ ?_ ?_; (omega); (show _ < _; omega); (simp -dsimp -implicitDefEqProofs (maxSteps := 1000000) (disch := first | omega | (simp only [LN]; omega)) only [go_sem, Int.reduceToNat, Int.reducePow, Nat.reducePow, Int.reduceAdd, Int.reduceMul, Int.reduceSub, Int.reduceNeg, Nat.reduceAdd, Nat.reduceMul, Nat.reduceSub, Nat.reduceEqDiff, Nat.reduceLT, Nat.reduceLeDiff]; try trivial))
        all_goals (exfalso; apply h; have hz : ((d.length : Int) == 0) = false := beq_eq_false_iff_ne.2 (by omega); exact hz.symm)
end Go.Proofs.YtcnbngflehiphaaDoor
