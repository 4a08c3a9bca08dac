/- Contracts of functions of this program, and the plain facts that they rest on. No conditions. -/
import Derived.Test.YtcnbngflehiphaaDoorD14
set_option linter.unusedSimpArgs false
set_option linter.unusedVariables false
namespace Go.Proofs.YtcnbngflehiphaaDoor
open Go Go.Ab
attribute [local irreducible] callK callF loopQ vstep vskip pickE hideP
open Go.RowKit
attribute [local go_sem] eI
set_option maxRecDepth 100000
theorem byteAt_bs (l : List UInt8) (n : Nat) : byteAt ⟨l.toArray⟩ n = ((l.getD n 0).toNat : Int) := rfl
theorem app_bs (a b : List UInt8) : ByteArray.mk a.toArray ++ ByteArray.mk b.toArray = ByteArray.mk (a ++ b).toArray := by
  apply ByteArray.ext; simp
attribute [local go_sem] byteAt_bs app_bs
/-- The numeral without leading zeros of a number of at most lim. -/
def numOk (lim : Nat) (l : List UInt8) : Bool := decide (l ≠ []) && decide (∀ c, c ∈ l → Dig c) && decide (l.length = 1 ∨ ¬ l.getD 0 0 = 48) && decide (valA 0 l ≤ lim)
def numV (lim : Nat) (l : List UInt8) : Nat := if numOk lim l = true then valA 0 l else 0
theorem numOk_iff {lim : Nat} {l : List UInt8} : numOk lim l = true ↔ l ≠ [] ∧ (∀ c, c ∈ l → Dig c) ∧ (l.length = 1 ∨ ¬ l.getD 0 0 = 48) ∧ valA 0 l ≤ lim := by
  unfold numOk
  simp only [Bool.and_eq_true, decide_eq_true_iff, and_assoc]
theorem numOk_inv {lim : Nat} {l : List UInt8} (h : numOk lim l = true) : l = Lib.decDigits (valA 0 l) ∧ valA 0 l ≤ lim := by
  obtain ⟨h1, h2, h3, h4⟩ := numOk_iff.1 h
  have : l.length ≠ 0 := fun e => h1 (List.length_eq_zero_iff.1 e)
  exact ⟨canon (l.length - 1) l (by omega) h2 h3, h4⟩
theorem numOk_dec {lim u : Nat} (h : u ≤ lim) : numOk lim (Lib.decDigits u) = true ∧ valA 0 (Lib.decDigits u) = u := by
  obtain ⟨h1, h2⟩ := dec_val u
  refine ⟨numOk_iff.2 ⟨dec_ne u, h2, ?_, by rw [h1]; exact h⟩, h1⟩
  have := dec_len u
  rcases Nat.lt_or_ge 1 (Lib.decDigits u).length with h3 | h3
  · exact .inr (dec_lead u h3)
  · exact .inl (by omega)
theorem getD_mem {l : List UInt8} {i : Nat} (h : i < l.length) : l.getD i 0 ∈ l := by
  rw [List.getD_eq_getElem?_getD, List.getElem?_eq_getElem h]; exact List.getElem_mem h
theorem num_dig {lim : Nat} {l : List UInt8} {i : Nat} (h : i < l.length) (hd : ¬ Dig (l.getD i 0)) : numOk lim l = false := by
  rw [Bool.eq_false_iff]; intro h1
  exact hd ((numOk_iff.1 h1).2.1 _ (getD_mem h))
theorem num_big {lim : Nat} {l : List UInt8} {i : Nat} (h : lim < valA 0 (l.take i)) : numOk lim l = false := by
  rw [Bool.eq_false_iff]; intro h1
  have h2 := (numOk_iff.1 h1).2.2.2
  have h3 : valA 0 l = valA (valA 0 (l.take i)) (l.drop i) := by rw [← valA_app, List.take_append_drop]
  have h4 := valA_ge (l.drop i) (valA 0 (l.take i))
  omega
theorem num_zero {lim : Nat} {l : List UInt8} (h : 1 < l.length) (h2 : l.getD 0 0 = 48) : numOk lim l = false := by
  rw [Bool.eq_false_iff]; intro h1
  rcases (numOk_iff.1 h1).2.2.1 with h3 | h3
  · omega
  · exact h3 h2
theorem num_nil (lim : Nat) : numOk lim [] = false := by simp [numOk]
theorem dig_all {l : List UInt8} (h : ∀ j, j < l.length → Dig (l.getD j 0)) : ∀ c, c ∈ l → Dig c := fun c hc => by
  have := take_dig h c
  rw [List.take_length] at this
  exact this hc
theorem u48 {c : UInt8} : ((c.toNat : Int) = 48) ↔ c = 48 := by
  constructor
  · intro h; apply u8_ext; show c.toNat = 48; omega
  · rintro rfl; rfl
theorem i64n {x : Int} (h : 0 ≤ x ∧ x ≤ 9223372036854775807) : IntKind.i64.wrap x = x := i64w (by omega) h.2
theorem valA_0 : valA 0 [] = 0 := rfl
set_option maxRecDepth 100000 in
set_option maxHeartbeats 4000000 in
theorem c65 (l : List UInt8) (lim : Nat) (hl : l.length ≤ 10000000) (hlim : lim ≤ 1000000) : PCalls Tryd.prog 65 [.v (.string (bs l)), .v (.int .i64 lim)] (.tup [.v (.int .i64 (numV lim l)), .v (.bool (numOk lim l))]) := by
  refine pcalls_of (E := E) (fn := Tryd.f65) 48 [.tmp 4, .tmp 5] rfl rfl rfl rfl (by decide) rfl ?_
  by_cases h0 : l = []
  · subst h0
    repeat' (first
      | (with_reducible first | refine r_seq ?_ | refine r_block ?_ | refine fork_not ?_ | refine fork_and ?_ | refine fork_or ?_ | refine chk_ok (by kernel_rfl) ?_)
      | ((with_reducible first | refine fork_dec ?_ ?_ | refine fork_eq ?_ ?_ | refine fork_ne ?_ ?_ | refine fork_intro ?_ ?_) <;> intro h <;> try (exfalso; first | omega | exact h rfl | (revert h; decide) | (cases h; done)))
      | ((with_reducible show False); omega)
      | ((first | (with_reducible first | refine r_exit ?_ | refine r_skip ?_ | refine r_cond ?_ | refine r_region ?_ | show VX _ _ _ _ _ _ _ | show vstep _ _ _ _ _ | show vskip _ _ _ | show withV _ _) | ((with_reducible show endA _ _ _ _ _ _ _); simp -implicitDefEqProofs only [endA])); simp -dsimp -implicitDefEqProofs (maxSteps := 1000000) (disch := first | omega | (simp only [LN]; omega)) only [go_sem, Int.reduceToNat, Int.reducePow, Nat.reducePow, Int.reduceAdd, Int.reduceMul, Int.reduceSub, Int.reduceNeg, Nat.reduceAdd, Nat.reduceMul, Nat.reduceSub, Nat.reduceEqDiff, Nat.reduceLT, Nat.reduceLeDiff])
      | ((first | (with_reducible refine r_ret ?_) | (with_reducible refine pick_viewG default (by first | omega | (simp only [LN]; omega)) (by first | omega | (simp only [LN]; omega)) ?_) | (with_reducible refine pick_own default (by first | omega | (simp only [LN]; omega)) ?_) | (with_reducible refine And.intro (by first | decide | omega | assumption | (simp only [LN]; omega)) ?_) | ((with_reducible show pickE _ _ _); first | refine pickE_intro _ ⟨by omega, by rfl⟩ ?_ | refine pickE_intro _ (by rfl) ?_) | fail); try simp -dsimp -implicitDefEqProofs (maxSteps := 1000000) (disch := first | omega | (simp only [LN]; omega)) only [go_sem, Int.reduceToNat, Int.reducePow, Nat.reducePow, Int.reduceAdd, Int.reduceMul, Int.reduceSub, Int.reduceNeg, Nat.reduceAdd, Nat.reduceMul, Nat.reduceSub, Nat.reduceEqDiff, Nat.reduceLT, Nat.reduceLeDiff])
      | fail)
    all_goals (rw [numV, num_nil lim]; exact ⟨rfl, rfl⟩)
  · by_cases h1 : 1 < l.length ∧ l.getD 0 0 = 48
    · have e := num_zero (lim := lim) h1.1 h1.2
      have e2 : ((l.getD 0 0).toNat : Int) = 48 := u48.2 h1.2
      repeat' (first
        | (with_reducible first | refine r_seq ?_ | refine r_block ?_ | refine fork_not ?_ | refine fork_and ?_ | refine fork_or ?_ | refine chk_ok (by kernel_rfl) ?_)
        | ((with_reducible first | refine fork_dec ?_ ?_ | refine fork_eq ?_ ?_ | refine fork_ne ?_ ?_ | refine fork_intro ?_ ?_) <;> intro h <;> try (exfalso; first | omega | exact h rfl | (revert h; decide) | (cases h; done)))
        | ((with_reducible show False); omega)
        | ((first | (with_reducible first | refine r_exit ?_ | refine r_skip ?_ | refine r_cond ?_ | refine r_region ?_ | show VX _ _ _ _ _ _ _ | show vstep _ _ _ _ _ | show vskip _ _ _ | show withV _ _) | ((with_reducible show endA _ _ _ _ _ _ _); simp -implicitDefEqProofs only [endA])); simp -dsimp -implicitDefEqProofs (maxSteps := 1000000) (disch := first | omega | (simp only [LN, h0, decide_false, e2]; omega)) only [go_sem, Int.reduceToNat, Int.reducePow, Nat.reducePow, Int.reduceAdd, Int.reduceMul, Int.reduceSub, Int.reduceNeg, Nat.reduceAdd, Nat.reduceMul, Nat.reduceSub, Nat.reduceEqDiff, Nat.reduceLT, Nat.reduceLeDiff, h0, decide_false, e2])
        | ((first | (with_reducible refine r_ret ?_) | (with_reducible refine pick_viewG default (by first | omega | (simp only [LN, h0, decide_false, e2]; omega)) (by first | omega | (simp only [LN, h0, decide_false, e2]; omega)) ?_) | (with_reducible refine pick_own default (by first | omega | (simp only [LN, h0, decide_false, e2]; omega)) ?_) | (with_reducible refine And.intro (by first | decide | omega | assumption | (simp only [LN, h0, decide_false, e2]; omega)) ?_) | ((with_reducible show pickE _ _ _); first | refine pickE_intro _ ⟨by omega, by rfl⟩ ?_ | refine pickE_intro _ (by rfl) ?_) | fail); try simp -dsimp -implicitDefEqProofs (maxSteps := 1000000) (disch := first | omega | (simp only [LN, h0, decide_false, e2]; omega)) only [go_sem, Int.reduceToNat, Int.reducePow, Nat.reducePow, Int.reduceAdd, Int.reduceMul, Int.reduceSub, Int.reduceNeg, Nat.reduceAdd, Nat.reduceMul, Nat.reduceSub, Nat.reduceEqDiff, Nat.reduceLT, Nat.reduceLeDiff, h0, decide_false, e2])
        | fail)
      all_goals (rw [numV, e]; exact ⟨rfl, rfl⟩)
    · have hz : l.length = 1 ∨ ¬ l.getD 0 0 = 48 := by
        have : l.length ≠ 0 := fun e => h0 (List.length_eq_zero_iff.1 e)
        by_cases h2 : l.length = 1
        · exact .inl h2
        · exact .inr fun h3 => h1 ⟨by omega, h3⟩
      have hz2 : l.length = 1 ∨ ¬ ((l.getD 0 0).toNat : Int) = 48 := hz.imp_right fun h => fun h3 => h (u48.1 h3)
      repeat' (first
        | (with_reducible first | refine r_seq ?_ | refine r_block ?_ | refine fork_not ?_ | refine fork_and ?_ | refine fork_or ?_ | refine chk_ok (by kernel_rfl) ?_)
        | ((with_reducible first | refine fork_dec ?_ ?_ | refine fork_eq ?_ ?_ | refine fork_ne ?_ ?_ | refine fork_intro ?_ ?_) <;> intro h <;> try (exfalso; first | omega | exact h rfl | (revert h; decide) | (cases h; done)))
        | ((with_reducible show False); omega)
        | ((first | (with_reducible first | refine r_exit ?_ | refine r_skip ?_ | refine r_cond ?_ | refine r_region ?_ | show VX _ _ _ _ _ _ _ | show vstep _ _ _ _ _ | show vskip _ _ _ | show withV _ _) | ((with_reducible show endA _ _ _ _ _ _ _); simp -implicitDefEqProofs only [endA])); simp -dsimp -implicitDefEqProofs (maxSteps := 1000000) (disch := first | omega | (simp only [LN, h0, decide_false]; omega)) only [go_sem, Int.reduceToNat, Int.reducePow, Nat.reducePow, Int.reduceAdd, Int.reduceMul, Int.reduceSub, Int.reduceNeg, Nat.reduceAdd, Nat.reduceMul, Nat.reduceSub, Nat.reduceEqDiff, Nat.reduceLT, Nat.reduceLeDiff, h0, decide_false])
        | ((first | (with_reducible refine r_ret ?_) | (with_reducible refine pick_viewG default (by first | omega | (simp only [LN, h0, decide_false]; omega)) (by first | omega | (simp only [LN, h0, decide_false]; omega)) ?_) | (with_reducible refine pick_own default (by first | omega | (simp only [LN, h0, decide_false]; omega)) ?_) | (with_reducible refine And.intro (by first | decide | omega | assumption | (simp only [LN, h0, decide_false]; omega)) ?_) | ((with_reducible show pickE _ _ _); first | refine pickE_intro _ ⟨by omega, by rfl⟩ ?_ | refine pickE_intro _ (by rfl) ?_) | fail); try simp -dsimp -implicitDefEqProofs (maxSteps := 1000000) (disch := first | omega | (simp only [LN, h0, decide_false]; omega)) only [go_sem, Int.reduceToNat, Int.reducePow, Nat.reducePow, Int.reduceAdd, Int.reduceMul, Int.reduceSub, Int.reduceNeg, Nat.reduceAdd, Nat.reduceMul, Nat.reduceSub, Nat.reduceEqDiff, Nat.reduceLT, Nat.reduceLeDiff, h0, decide_false])
        | fail)
      all_goals
        refine r_loopA (α := Nat) [0, 1, 21] (fun i b => [(6, .p (.v (.int .i64 (valA 0 (l.take i))))), (22, aI i)]) (fun i b => []) (fun i => []) (fun i => i ≤ l.length ∧ valA 0 (l.take i) ≤ lim ∧ ∀ j, j < i → Dig (l.getD j 0)) (fun i => l.length - i) (0) ?h0_1 ?hs0_1 ?I_1 ?hI_1 ?round_1
        case hI_1 => intro x; (simp -dsimp -implicitDefEqProofs (maxSteps := 1000000) (disch := first | omega | (simp only [LN]; omega)) only [go_sem, Int.reduceToNat, Int.reducePow, Nat.reducePow, Int.reduceAdd, Int.reduceMul, Int.reduceSub, Int.reduceNeg, Nat.reduceAdd, Nat.reduceMul, Nat.reduceSub, Nat.reduceEqDiff, Nat.reduceLT, Nat.reduceLeDiff]) <;> exact rfl
        case hs0_1 => refine wk_auto ?_; (simp -dsimp -implicitDefEqProofs (maxSteps := 1000000) (disch := first | omega | (simp only [LN, List.take_zero, valA_0]; omega)) only [go_sem, Int.reduceToNat, Int.reducePow, Nat.reducePow, Int.reduceAdd, Int.reduceMul, Int.reduceSub, Int.reduceNeg, Nat.reduceAdd, Nat.reduceMul, Nat.reduceSub, Nat.reduceEqDiff, Nat.reduceLT, Nat.reduceLeDiff, List.take_zero, valA_0]) <;> (try omega)
        case h0_1 => exact ⟨Nat.zero_le _, Nat.zero_le _, fun j hj => absurd hj (by omega)⟩
        case round_1 =>
          intro i hi
          obtain ⟨hi1, hi2, hi3⟩ := hi
          repeat' (first
            | (with_reducible first | refine r_seq ?_ | refine r_block ?_ | refine fork_not ?_ | refine fork_and ?_ | refine fork_or ?_ | refine chk_ok (by kernel_rfl) ?_)
            | ((with_reducible first | refine fork_dec ?_ ?_ | refine fork_eq ?_ ?_ | refine fork_ne ?_ ?_ | refine fork_intro ?_ ?_) <;> intro h <;> try (exfalso; first | omega | exact h rfl | (revert h; decide) | (cases h; done)))
            | ((with_reducible show False); omega)
            | ((first | (with_reducible first | refine r_exit ?_ | refine r_skip ?_ | refine r_cond ?_ | refine r_region ?_ | show VX _ _ _ _ _ _ _ | show vstep _ _ _ _ _ | show vskip _ _ _ | show withV _ _) | ((with_reducible show endA _ _ _ _ _ _ _); simp -implicitDefEqProofs only [endA])); simp -dsimp -implicitDefEqProofs (maxSteps := 1000000) (disch := first | omega | (simp only [LN]; omega)) only [go_sem, Int.reduceToNat, Int.reducePow, Nat.reducePow, Int.reduceAdd, Int.reduceMul, Int.reduceSub, Int.reduceNeg, Nat.reduceAdd, Nat.reduceMul, Nat.reduceSub, Nat.reduceEqDiff, Nat.reduceLT, Nat.reduceLeDiff])
            | ((first | (with_reducible refine r_ret ?_) | (with_reducible refine pick_viewG default (by first | omega | (simp only [LN]; omega)) (by first | omega | (simp only [LN]; omega)) ?_) | (with_reducible refine pick_own default (by first | omega | (simp only [LN]; omega)) ?_) | (with_reducible refine And.intro (by first | decide | omega | assumption | (simp only [LN]; omega)) ?_) | ((with_reducible show pickE _ _ _); first | refine pickE_intro _ ⟨by omega, by rfl⟩ ?_ | refine pickE_intro _ (by rfl) ?_) | fail); try simp -dsimp -implicitDefEqProofs (maxSteps := 1000000) (disch := first | omega | (simp only [LN]; omega)) only [go_sem, Int.reduceToNat, Int.reducePow, Nat.reducePow, Int.reduceAdd, Int.reduceMul, Int.reduceSub, Int.reduceNeg, Nat.reduceAdd, Nat.reduceMul, Nat.reduceSub, Nat.reduceEqDiff, Nat.reduceLT, Nat.reduceLeDiff])
            | fail)
          all_goals first
            | (rw [numV, num_dig (lim := lim) (l := l) (i := i) (by omega) (fun hd => by unfold Dig at hd; omega)]; exact ⟨rfl, rfl⟩)
            | (have hd : Dig (l.getD i 0) := digI (by omega) (by omega)
               have hd2 := hd.1
               have hd3 := hd.2
               have ht := take_val (l := l) (i := i) (by omega)
               have hw : IntKind.i64.wrap (10 * (valA 0 (l.take i) : Int) + IntKind.i64.wrap (IntKind.u8.wrap (((l.getD i 0).toNat : Int) - 48))) = (valA 0 (l.take (i + 1)) : Int) := by rw [ht, wr8, i64n (x := (((l.getD i 0).toNat : Int) - 48) % 256) (by omega), i64n (by omega)]; omega
               rw [hw] at h
               first
                 | (rw [numV, num_big (lim := lim) (l := l) (i := i + 1) (by omega)]; exact ⟨rfl, rfl⟩)
                 | (refine loopQ_next (i + 1) ?_ ?_ ?_; (exact ⟨by omega, by omega, ext_dig hi3 hd⟩); (show _ < _; omega); (simp -dsimp -implicitDefEqProofs (maxSteps := 1000000) (disch := first | omega | (simp only [LN, hw]; omega)) only [go_sem, Int.reduceToNat, Int.reducePow, Nat.reducePow, Int.reduceAdd, Int.reduceMul, Int.reduceSub, Int.reduceNeg, Nat.reduceAdd, Nat.reduceMul, Nat.reduceSub, Nat.reduceEqDiff, Nat.reduceLT, Nat.reduceLeDiff, hw]; try trivial)))
            | (obtain rfl : i = l.length := by omega
               rw [List.take_length] at hi2
               have e : numOk lim l = true := numOk_iff.2 ⟨h0, dig_all hi3, hz, hi2⟩
               rw [numV, if_pos e, e]; exact ⟨rfl, rfl⟩)
            | trace_state
/-- The reference's numeral: at most five digits. -/
def digK (l : List UInt8) : Nat := if 1 < pre 5 l ∧ l.getD 0 0 = 48 then 0 else pre 5 l
theorem val_small5 {l : List UInt8} {i : Nat} (h : ∀ j, j < i → Dig (l.getD j 0)) (hi : i ≤ 5) : valA 0 (l.take i) < 100000 := by
  have h1 := val_lt (l.take i) 0 (take_dig h)
  have h2 : (l.take i).length ≤ 5 := by rw [List.length_take]; omega
  have h3 := Nat.pow_le_pow_right (show 0 < 10 by decide) h2
  have h4 : (10 : Nat) ^ 5 = 100000 := by decide
  omega
set_option maxRecDepth 100000 in
set_option maxHeartbeats 4000000 in
theorem c67 (l : List UInt8) (hl : l.length ≤ 10000000) : PCalls Tryd.prog 67 [.v (.string (bs l))] (.tup [.v (.int .i64 (valA 0 (l.take (digK l)))), .v (.int .i64 (digK l))]) := by
  refine pcalls_of (E := E) (fn := Tryd.f67) 45 [.tmp 2, .tmp 3] rfl rfl rfl rfl (by decide) rfl ?_
  repeat' (first
    | (with_reducible first | refine r_seq ?_ | refine r_block ?_ | refine fork_not ?_ | refine fork_and ?_ | refine fork_or ?_ | refine chk_ok (by kernel_rfl) ?_)
    | ((with_reducible first | refine fork_dec ?_ ?_ | refine fork_eq ?_ ?_ | refine fork_ne ?_ ?_ | refine fork_intro ?_ ?_) <;> intro h)
    | ((with_reducible show False); omega)
    | ((first | (with_reducible first | refine r_exit ?_ | refine r_skip ?_ | refine r_cond ?_ | refine r_region ?_ | show VX _ _ _ _ _ _ _ | show vstep _ _ _ _ _ | show vskip _ _ _ | show withV _ _) | ((with_reducible show endA _ _ _ _ _ _ _); simp -implicitDefEqProofs only [endA])); simp -dsimp -implicitDefEqProofs (maxSteps := 1000000) (disch := first | omega | (simp only [LN]; omega)) only [go_sem, Int.reduceToNat, Int.reducePow, Nat.reducePow, Int.reduceAdd, Int.reduceMul, Int.reduceSub, Int.reduceNeg, Nat.reduceAdd, Nat.reduceMul, Nat.reduceSub, Nat.reduceEqDiff, Nat.reduceLT, Nat.reduceLeDiff])
    | ((first | (with_reducible refine r_ret ?_) | (with_reducible refine pick_viewG default (by first | omega | (simp only [LN]; omega)) (by first | omega | (simp only [LN]; omega)) ?_) | (with_reducible refine pick_own default (by first | omega | (simp only [LN]; omega)) ?_) | (with_reducible refine And.intro (by first | decide | omega | assumption | (simp only [LN]; omega)) ?_) | ((with_reducible show pickE _ _ _); first | refine pickE_intro _ ⟨by omega, by rfl⟩ ?_ | refine pickE_intro _ (by rfl) ?_) | fail); try simp -dsimp -implicitDefEqProofs (maxSteps := 1000000) (disch := first | omega | (simp only [LN]; omega)) only [go_sem, Int.reduceToNat, Int.reducePow, Nat.reducePow, Int.reduceAdd, Int.reduceMul, Int.reduceSub, Int.reduceNeg, Nat.reduceAdd, Nat.reduceMul, Nat.reduceSub, Nat.reduceEqDiff, Nat.reduceLT, Nat.reduceLeDiff])
    | fail)
  refine r_loopA (α := Nat) [0] (fun i b => [(4, .p (.v (.int .i64 (valA 0 (l.take i))))), (5, aI i)]) (fun i b => []) (fun i => []) (fun i => i ≤ l.length ∧ i ≤ 5 ∧ ∀ j, j < i → Dig (l.getD j 0)) (fun i => l.length - i) (0) ?h0_2 ?hs0_2 ?I_2 ?hI_2 ?round_2
  case hI_2 => intro x; (simp -dsimp -implicitDefEqProofs (maxSteps := 1000000) (disch := first | omega | (simp only [LN]; omega)) only [go_sem, Int.reduceToNat, Int.reducePow, Nat.reducePow, Int.reduceAdd, Int.reduceMul, Int.reduceSub, Int.reduceNeg, Nat.reduceAdd, Nat.reduceMul, Nat.reduceSub, Nat.reduceEqDiff, Nat.reduceLT, Nat.reduceLeDiff]) <;> exact rfl
  case hs0_2 => refine wk_auto ?_; (simp -dsimp -implicitDefEqProofs (maxSteps := 1000000) (disch := first | omega | (simp only [LN, List.take_zero, valA_0]; omega)) only [go_sem, Int.reduceToNat, Int.reducePow, Nat.reducePow, Int.reduceAdd, Int.reduceMul, Int.reduceSub, Int.reduceNeg, Nat.reduceAdd, Nat.reduceMul, Nat.reduceSub, Nat.reduceEqDiff, Nat.reduceLT, Nat.reduceLeDiff, List.take_zero, valA_0]) <;> (try omega)
  case h0_2 => exact ⟨Nat.zero_le _, Nat.zero_le _, fun j hj => absurd hj (by omega)⟩
  case round_2 =>
    intro i hi
    obtain ⟨hi1, hi2, hi3⟩ := hi
    have hv := val_small5 hi3 hi2
    repeat' (first
      | (with_reducible first | refine r_seq ?_ | refine r_block ?_ | refine fork_not ?_ | refine fork_and ?_ | refine fork_or ?_ | refine chk_ok (by kernel_rfl) ?_)
      | ((with_reducible first | refine fork_dec ?_ ?_ | refine fork_eq ?_ ?_ | refine fork_ne ?_ ?_ | refine fork_intro ?_ ?_) <;> intro h <;> try (exfalso; first | omega | exact h rfl | (revert h; decide) | (cases h; done)))
      | ((with_reducible show False); omega)
      | ((first | (with_reducible first | refine r_exit ?_ | refine r_skip ?_ | refine r_cond ?_ | refine r_region ?_ | show VX _ _ _ _ _ _ _ | show vstep _ _ _ _ _ | show vskip _ _ _ | show withV _ _) | ((with_reducible show endA _ _ _ _ _ _ _); simp -implicitDefEqProofs only [endA])); simp -dsimp -implicitDefEqProofs (maxSteps := 1000000) (disch := first | omega | (simp only [LN]; omega)) only [go_sem, Int.reduceToNat, Int.reducePow, Nat.reducePow, Int.reduceAdd, Int.reduceMul, Int.reduceSub, Int.reduceNeg, Nat.reduceAdd, Nat.reduceMul, Nat.reduceSub, Nat.reduceEqDiff, Nat.reduceLT, Nat.reduceLeDiff])
      | ((first | (with_reducible refine r_ret ?_) | (with_reducible refine pick_viewG default (by first | omega | (simp only [LN]; omega)) (by first | omega | (simp only [LN]; omega)) ?_) | (with_reducible refine pick_own default (by first | omega | (simp only [LN]; omega)) ?_) | (with_reducible refine And.intro (by first | decide | omega | assumption | (simp only [LN]; omega)) ?_) | ((with_reducible show pickE _ _ _); first | refine pickE_intro _ ⟨by omega, by rfl⟩ ?_ | refine pickE_intro _ (by rfl) ?_) | fail); try simp -dsimp -implicitDefEqProofs (maxSteps := 1000000) (disch := first | omega | (simp only [LN]; omega)) only [go_sem, Int.reduceToNat, Int.reducePow, Nat.reducePow, Int.reduceAdd, Int.reduceMul, Int.reduceSub, Int.reduceNeg, Nat.reduceAdd, Nat.reduceMul, Nat.reduceSub, Nat.reduceEqDiff, Nat.reduceLT, Nat.reduceLeDiff])
      | fail)
    all_goals first
      | (have hd : Dig (l.getD i 0) := digI (by omega) (by omega)
         have hd2 := hd.1
         have hd3 := hd.2
         have ht := take_val (l := l) (i := i) (by omega)
         have hw : IntKind.i64.wrap (10 * (valA 0 (l.take i) : Int) + IntKind.i64.wrap (IntKind.u8.wrap (((l.getD i 0).toNat : Int) - 48))) = (valA 0 (l.take (i + 1)) : Int) := by rw [ht, wr8, i64n (x := (((l.getD i 0).toNat : Int) - 48) % 256) (by omega), i64n (by omega)]; omega
         (refine loopQ_next (i + 1) ?_ ?_ ?_; (exact ⟨by omega, by omega, ext_dig hi3 hd⟩); (show _ < _; omega); (simp -dsimp -implicitDefEqProofs (maxSteps := 1000000) (disch := first | omega | (simp only [LN, hw]; omega)) only [go_sem, Int.reduceToNat, Int.reducePow, Nat.reducePow, Int.reduceAdd, Int.reduceMul, Int.reduceSub, Int.reduceNeg, Nat.reduceAdd, Nat.reduceMul, Nat.reduceSub, Nat.reduceEqDiff, Nat.reduceLT, Nat.reduceLeDiff, hw]; try trivial)))
      | (have e : pre 5 l = i := pre_is 5 l i hi3 hi2 hi1 (by first | exact .inl (by omega) | exact .inr (.inl (by omega)) | exact .inr (.inr fun h => by unfold Dig at h; omega))
         first
           | (have e2 : digK l = 0 := if_pos ⟨by omega, u48.1 (by assumption)⟩
              rw [e2]; exact ⟨rfl, rfl⟩)
           | (have e2 : digK l = i := by
                unfold digK; rw [if_neg (fun hh => by have := u48.2 hh.2; omega), e]
              try rw [show valA 0 l = valA 0 (l.take i) by rw [List.take_of_length_le (by omega)]]
              rw [e2]; exact ⟨rfl, rfl⟩))
      | trace_state
/-- What sixteen digits say. -/
def hxA : Nat → List UInt8 → Nat
  | a, [] => a
  | a, c :: l => hxA (a * 16 + hxd c) l
theorem hxA_app : ∀ (l r : List UInt8) (a : Nat), hxA a (l ++ r) = hxA (hxA a l) r
  | [], _, _ => rfl
  | c :: l, r, a => hxA_app l r _
theorem hxA_lt : ∀ (l : List UInt8) (a : Nat), (∀ c, c ∈ l → isHx c = true) → hxA a l < (a + 1) * 16 ^ l.length
  | [], a, _ => by show a < (a + 1) * 1; omega
  | c :: l, a, hd => by
    have hc := hxd_lt c (hd c (by simp))
    have ih := hxA_lt l (a * 16 + hxd c) fun d h => hd d (List.mem_cons_of_mem _ h)
    have h1 : (a * 16 + hxd c + 1) * 16 ^ l.length ≤ ((a + 1) * 16) * 16 ^ l.length := Nat.mul_le_mul_right _ (by omega)
    rw [List.length_cons, Nat.pow_succ, Nat.mul_comm (16 ^ l.length) 16, ← Nat.mul_assoc]
    show hxA (a * 16 + hxd c) l < _
    omega
def hxOk (l : List UInt8) : Bool := decide (l.length = 16) && l.all isHx
def hxV (l : List UInt8) : Nat := if hxOk l = true then hxA 0 l else 0
theorem take_hx {l : List UInt8} {i : Nat} (h : i < l.length) : hxA 0 (l.take (i + 1)) = hxA 0 (l.take i) * 16 + hxd (l.getD i 0) := by
  rw [List.take_add_one, List.getD_eq_getElem?_getD, List.getElem?_eq_getElem h]
  show hxA 0 (l.take i ++ [l[i]]) = _
  rw [hxA_app]; rfl
theorem take_isHx {l : List UInt8} {i : Nat} (h : ∀ j, j < i → isHx (l.getD j 0) = true) : ∀ c, c ∈ l.take i → isHx c = true := by
  intro c hc
  obtain ⟨j, hj, rfl⟩ := List.mem_iff_getElem.1 hc
  have h1 : j < i := by rw [List.length_take] at hj; omega
  have h2 : j < l.length := by rw [List.length_take] at hj; omega
  have := h j h1
  rw [List.getD_eq_getElem?_getD, List.getElem?_eq_getElem h2] at this
  rw [List.getElem_take]; exact this
theorem hx_small {l : List UInt8} {i : Nat} (h : ∀ j, j < i → isHx (l.getD j 0) = true) (hi : i ≤ 16) : hxA 0 (l.take i) < 16 ^ i := by
  have h1 := hxA_lt (l.take i) 0 (take_isHx h)
  have h2 : (l.take i).length ≤ i := by rw [List.length_take]; omega
  have h3 := Nat.pow_le_pow_right (show 0 < 16 by decide) h2
  omega
theorem ext_hx {l : List UInt8} {i : Nat} (h : ∀ j, j < i → isHx (l.getD j 0) = true) (hi : isHx (l.getD i 0) = true) : ∀ j, j < i + 1 → isHx (l.getD j 0) = true := fun j hj => by
  rcases Nat.lt_or_ge j i with h1 | h1
  · exact h j h1
  · obtain rfl : j = i := by omega
    exact hi
theorem hx_no {l : List UInt8} {i : Nat} (h : i < l.length) (hd : isHx (l.getD i 0) = false) : hxOk l = false := by
  unfold hxOk
  rw [Bool.and_eq_false_iff]; right
  rw [List.all_eq_false]; exact ⟨_, getD_mem h, by rw [hd]; decide⟩
theorem hx_yes {l : List UInt8} (h : l.length = 16) (hd : ∀ j, j < 16 → isHx (l.getD j 0) = true) : hxOk l = true := by
  unfold hxOk
  rw [Bool.and_eq_true, decide_eq_true_iff, List.all_eq_true]
  have := take_isHx hd
  rw [List.take_of_length_le (by omega)] at this
  exact ⟨h, this⟩
end Go.Proofs.YtcnbngflehiphaaDoor
