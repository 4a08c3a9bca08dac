/- Contracts of functions of this program, and the plain facts that they rest on. No conditions. -/
import Derived.Test.YtcnbngflehiphaaDoorD15
set_option linter.unusedSimpArgs false
set_option linter.unusedVariables false
namespace Go.Proofs.YtcnbngflehiphaaDoor
open Go Go.Ab
attribute [local irreducible] callK callF loopQ vstep vskip pickE hideP
open Go.RowKit
attribute [local go_sem] eI byteAt_bs app_bs
set_option maxRecDepth 100000
theorem hx_len {l : List UInt8} (h : ¬ l.length = 16) : hxOk l = false := by unfold hxOk; rw [decide_eq_false h]; rfl
theorem hx_or {a d : Nat} (hd : d < 16) (ha : a < 16 ^ 15) : IntKind.u64.wrap ((BitVec.ofInt IntKind.u64.bits (IntKind.u64.wrap ((a : Int) * 16)) ||| BitVec.ofInt IntKind.u64.bits (d : Int)).toNat : Int) = ((a * 16 + d : Nat) : Int) := by
  have h16 : (16 : Nat) ^ 15 = 1152921504606846976 := by decide
  have e1 : IntKind.u64.wrap ((a : Int) * 16) = (a : Int) * 2 ^ 4 := by rw [wr64]; omega
  have := bor_add (d : Int) (a : Int) 4 (by omega) (by omega) (by omega) (by omega)
  rw [e1]
  show IntKind.u64.wrap ((BitVec.ofInt 64 ((a : Int) * 2 ^ 4) ||| BitVec.ofInt 64 (d : Int)).toNat : Int) = _
  rw [BitVec.or_comm, this, wr64]; omega
theorem hxA_0 : hxA 0 [] = 0 := rfl
set_option maxRecDepth 100000 in
set_option maxHeartbeats 4000000 in
theorem c89 (l : List UInt8) (hl : l.length ≤ 10000000) : PCalls Tryd.prog 89 [.v (.string (bs l))] (.tup [.v (.int .u64 (hxV l)), .v (.bool (hxOk l))]) := by
  refine pcalls_of (E := E) (fn := Tryd.f89) 28 [.tmp 2, .tmp 3] rfl rfl rfl rfl (by decide) rfl ?_
  by_cases h16 : l.length = 16
  · repeat' (first
      | (with_reducible first | refine r_seq ?_ | refine r_block ?_ | refine fork_not ?_ | refine fork_and ?_ | refine fork_or ?_ | refine chk_ok (by kernel_rfl) ?_)
      | ((with_reducible first | refine fork_dec ?_ ?_ | refine fork_eq ?_ ?_ | refine fork_ne ?_ ?_ | refine fork_intro ?_ ?_) <;> intro h)
      | ((with_reducible show False); omega)
      | ((first | (with_reducible first | refine r_exit ?_ | refine r_skip ?_ | refine r_cond ?_ | refine r_region ?_ | show VX _ _ _ _ _ _ _ | show vstep _ _ _ _ _ | show vskip _ _ _ | show withV _ _) | ((with_reducible show endA _ _ _ _ _ _ _); simp -implicitDefEqProofs only [endA])); simp -dsimp -implicitDefEqProofs (maxSteps := 1000000) (disch := first | omega | (simp only [LN]; omega)) only [go_sem, Int.reduceToNat, Int.reducePow, Nat.reducePow, Int.reduceAdd, Int.reduceMul, Int.reduceSub, Int.reduceNeg, Nat.reduceAdd, Nat.reduceMul, Nat.reduceSub, Nat.reduceEqDiff, Nat.reduceLT, Nat.reduceLeDiff])
      | ((first | (with_reducible refine r_ret ?_) | (with_reducible refine pick_viewG default (by first | omega | (simp only [LN]; omega)) (by first | omega | (simp only [LN]; omega)) ?_) | (with_reducible refine pick_own default (by first | omega | (simp only [LN]; omega)) ?_) | (with_reducible refine And.intro (by first | decide | omega | assumption | (simp only [LN]; omega)) ?_) | ((with_reducible show pickE _ _ _); first | refine pickE_intro _ ⟨by omega, by rfl⟩ ?_ | refine pickE_intro _ (by rfl) ?_) | fail); try simp -dsimp -implicitDefEqProofs (maxSteps := 1000000) (disch := first | omega | (simp only [LN]; omega)) only [go_sem, Int.reduceToNat, Int.reducePow, Nat.reducePow, Int.reduceAdd, Int.reduceMul, Int.reduceSub, Int.reduceNeg, Nat.reduceAdd, Nat.reduceMul, Nat.reduceSub, Nat.reduceEqDiff, Nat.reduceLT, Nat.reduceLeDiff])
      | fail)
    refine r_loopA (α := Nat) [0, 11] (fun i b => [(4, .p (.v (.int .u64 (hxA 0 (l.take i))))), (12, aI i)]) (fun i b => []) (fun i => []) (fun i => i ≤ 16 ∧ ∀ j, j < i → isHx (l.getD j 0) = true) (fun i => 16 - i) (0) ?h0_1 ?hs0_1 ?I_1 ?hI_1 ?round_1
    case hI_1 => intro x; (simp -dsimp -implicitDefEqProofs (maxSteps := 1000000) (disch := first | omega | (simp only [LN]; omega)) only [go_sem, Int.reduceToNat, Int.reducePow, Nat.reducePow, Int.reduceAdd, Int.reduceMul, Int.reduceSub, Int.reduceNeg, Nat.reduceAdd, Nat.reduceMul, Nat.reduceSub, Nat.reduceEqDiff, Nat.reduceLT, Nat.reduceLeDiff]) <;> exact rfl
    case hs0_1 => refine wk_auto ?_; (simp -dsimp -implicitDefEqProofs (maxSteps := 1000000) (disch := first | omega | (simp only [LN, List.take_zero, hxA_0]; omega)) only [go_sem, Int.reduceToNat, Int.reducePow, Nat.reducePow, Int.reduceAdd, Int.reduceMul, Int.reduceSub, Int.reduceNeg, Nat.reduceAdd, Nat.reduceMul, Nat.reduceSub, Nat.reduceEqDiff, Nat.reduceLT, Nat.reduceLeDiff, List.take_zero, hxA_0]) <;> (try omega)
    case h0_1 => exact ⟨Nat.zero_le _, fun j hj => absurd hj (by omega)⟩
    case round_1 =>
      rintro i ⟨h1, h2⟩
      have hs := hx_small h2 h1
      by_cases hx : isHx (l.getD i 0) = true
      · have k := c100 (l.getD i 0)
        rw [if_pos hx] at k
        have hd := hxd_lt _ hx
        have d2 : IntKind.u64.wrap (hxd (l.getD i 0) : Int) = hxd (l.getD i 0) := by rw [wr64]; omega
        repeat' (first
          | (with_reducible first | refine r_seq ?_ | refine r_block ?_ | refine fork_not ?_ | refine fork_and ?_ | refine fork_or ?_ | refine chk_ok (by kernel_rfl) ?_)
          | ((with_reducible first | refine fork_dec ?_ ?_ | refine fork_eq ?_ ?_ | refine fork_ne ?_ ?_ | refine fork_intro ?_ ?_) <;> intro h <;> try (exfalso; first | omega | exact h rfl | (revert h; decide) | (cases h; done)))
          | ((with_reducible show False); omega)
          | ((first | (with_reducible first | refine r_exit ?_ | refine r_skip ?_ | refine r_cond ?_ | refine r_region ?_ | show VX _ _ _ _ _ _ _ | show vstep _ _ _ _ _ | show vskip _ _ _ | show withV _ _) | ((with_reducible show endA _ _ _ _ _ _ _); simp -implicitDefEqProofs only [endA])); simp -dsimp -implicitDefEqProofs (maxSteps := 1000000) (disch := first | omega | (simp only [LN, d2]; omega)) only [go_sem, Int.reduceToNat, Int.reducePow, Nat.reducePow, Int.reduceAdd, Int.reduceMul, Int.reduceSub, Int.reduceNeg, Nat.reduceAdd, Nat.reduceMul, Nat.reduceSub, Nat.reduceEqDiff, Nat.reduceLT, Nat.reduceLeDiff, d2])
          | ((first | (with_reducible refine r_ret ?_) | (with_reducible refine pick_viewG default (by first | omega | (simp only [LN, d2]; omega)) (by first | omega | (simp only [LN, d2]; omega)) ?_) | (with_reducible refine pick_own default (by first | omega | (simp only [LN, d2]; omega)) ?_) | (with_reducible refine And.intro (by first | decide | omega | assumption | (simp only [LN, d2]; omega)) ?_) | ((with_reducible apply callK_pure); (exact k)) | ((with_reducible apply callF_lend); (exact k); rfl) | ((with_reducible apply callF_go); (exact k)) | ((with_reducible show pickE _ _ _); first | refine pickE_intro _ ⟨by omega, by rfl⟩ ?_ | refine pickE_intro _ (by rfl) ?_) | fail); try simp -dsimp -implicitDefEqProofs (maxSteps := 1000000) (disch := first | omega | (simp only [LN, d2]; omega)) only [go_sem, Int.reduceToNat, Int.reducePow, Nat.reducePow, Int.reduceAdd, Int.reduceMul, Int.reduceSub, Int.reduceNeg, Nat.reduceAdd, Nat.reduceMul, Nat.reduceSub, Nat.reduceEqDiff, Nat.reduceLT, Nat.reduceLeDiff, d2])
          | fail)
        · have hs2 : hxA 0 (l.take i) < 16 ^ 15 := Nat.lt_of_lt_of_le hs (Nat.pow_le_pow_right (by decide) (by omega))
          have e1 := hx_or hd hs2
          rw [← take_hx (l := l) (i := i) (by omega)] at e1
          (refine loopQ_next (i + 1) ?_ ?_ ?_; (exact ⟨by omega, ext_hx h2 hx⟩); (show _ < _; omega); (simp -dsimp -implicitDefEqProofs (maxSteps := 1000000) (disch := first | omega | (simp only [LN, e1]; omega)) only [go_sem, Int.reduceToNat, Int.reducePow, Nat.reducePow, Int.reduceAdd, Int.reduceMul, Int.reduceSub, Int.reduceNeg, Nat.reduceAdd, Nat.reduceMul, Nat.reduceSub, Nat.reduceEqDiff, Nat.reduceLT, Nat.reduceLeDiff, e1]; try trivial))
        · have e := hx_yes h16 (fun j hj => h2 j (by omega))
          rw [hxV, if_pos e, e]; exact ⟨rfl, rfl⟩
      · have k := c100 (l.getD i 0)
        rw [if_neg hx] at k
        repeat' (first
          | (with_reducible first | refine r_seq ?_ | refine r_block ?_ | refine fork_not ?_ | refine fork_and ?_ | refine fork_or ?_ | refine chk_ok (by kernel_rfl) ?_)
          | ((with_reducible first | refine fork_dec ?_ ?_ | refine fork_eq ?_ ?_ | refine fork_ne ?_ ?_ | refine fork_intro ?_ ?_) <;> intro h <;> try (exfalso; first | omega | exact h rfl | (revert h; decide) | (cases h; done)))
          | ((with_reducible show False); omega)
          | ((first | (with_reducible first | refine r_exit ?_ | refine r_skip ?_ | refine r_cond ?_ | refine r_region ?_ | show VX _ _ _ _ _ _ _ | show vstep _ _ _ _ _ | show vskip _ _ _ | show withV _ _) | ((with_reducible show endA _ _ _ _ _ _ _); simp -implicitDefEqProofs only [endA])); simp -dsimp -implicitDefEqProofs (maxSteps := 1000000) (disch := first | omega | (simp only [LN]; omega)) only [go_sem, Int.reduceToNat, Int.reducePow, Nat.reducePow, Int.reduceAdd, Int.reduceMul, Int.reduceSub, Int.reduceNeg, Nat.reduceAdd, Nat.reduceMul, Nat.reduceSub, Nat.reduceEqDiff, Nat.reduceLT, Nat.reduceLeDiff])
          | ((first | (with_reducible refine r_ret ?_) | (with_reducible refine pick_viewG default (by first | omega | (simp only [LN]; omega)) (by first | omega | (simp only [LN]; omega)) ?_) | (with_reducible refine pick_own default (by first | omega | (simp only [LN]; omega)) ?_) | (with_reducible refine And.intro (by first | decide | omega | assumption | (simp only [LN]; omega)) ?_) | ((with_reducible apply callK_pure); (exact k)) | ((with_reducible apply callF_lend); (exact k); rfl) | ((with_reducible apply callF_go); (exact k)) | ((with_reducible show pickE _ _ _); first | refine pickE_intro _ ⟨by omega, by rfl⟩ ?_ | refine pickE_intro _ (by rfl) ?_) | fail); try simp -dsimp -implicitDefEqProofs (maxSteps := 1000000) (disch := first | omega | (simp only [LN]; omega)) only [go_sem, Int.reduceToNat, Int.reducePow, Nat.reducePow, Int.reduceAdd, Int.reduceMul, Int.reduceSub, Int.reduceNeg, Nat.reduceAdd, Nat.reduceMul, Nat.reduceSub, Nat.reduceEqDiff, Nat.reduceLT, Nat.reduceLeDiff])
          | fail)
        · rw [hxV, hx_no (by omega) (Bool.eq_false_iff.2 hx)]; exact ⟨rfl, rfl⟩
        · have e := hx_yes h16 (fun j hj => h2 j (by omega))
          rw [hxV, if_pos e, e]; exact ⟨rfl, rfl⟩
  · repeat' (first
      | (with_reducible first | refine r_seq ?_ | refine r_block ?_ | refine fork_not ?_ | refine fork_and ?_ | refine fork_or ?_ | refine chk_ok (by kernel_rfl) ?_)
      | ((with_reducible first | refine fork_dec ?_ ?_ | refine fork_eq ?_ ?_ | refine fork_ne ?_ ?_ | refine fork_intro ?_ ?_) <;> intro h <;> try (exfalso; first | omega | exact h rfl | (revert h; decide) | (cases h; done)))
      | ((with_reducible show False); omega)
      | ((first | (with_reducible first | refine r_exit ?_ | refine r_skip ?_ | refine r_cond ?_ | refine r_region ?_ | show VX _ _ _ _ _ _ _ | show vstep _ _ _ _ _ | show vskip _ _ _ | show withV _ _) | ((with_reducible show endA _ _ _ _ _ _ _); simp -implicitDefEqProofs only [endA])); simp -dsimp -implicitDefEqProofs (maxSteps := 1000000) (disch := first | omega | (simp only [LN]; omega)) only [go_sem, Int.reduceToNat, Int.reducePow, Nat.reducePow, Int.reduceAdd, Int.reduceMul, Int.reduceSub, Int.reduceNeg, Nat.reduceAdd, Nat.reduceMul, Nat.reduceSub, Nat.reduceEqDiff, Nat.reduceLT, Nat.reduceLeDiff])
      | ((first | (with_reducible refine r_ret ?_) | (with_reducible refine pick_viewG default (by first | omega | (simp only [LN]; omega)) (by first | omega | (simp only [LN]; omega)) ?_) | (with_reducible refine pick_own default (by first | omega | (simp only [LN]; omega)) ?_) | (with_reducible refine And.intro (by first | decide | omega | assumption | (simp only [LN]; omega)) ?_) | ((with_reducible show pickE _ _ _); first | refine pickE_intro _ ⟨by omega, by rfl⟩ ?_ | refine pickE_intro _ (by rfl) ?_) | fail); try simp -dsimp -implicitDefEqProofs (maxSteps := 1000000) (disch := first | omega | (simp only [LN]; omega)) only [go_sem, Int.reduceToNat, Int.reducePow, Nat.reducePow, Int.reduceAdd, Int.reduceMul, Int.reduceSub, Int.reduceNeg, Nat.reduceAdd, Nat.reduceMul, Nat.reduceSub, Nat.reduceEqDiff, Nat.reduceLT, Nat.reduceLeDiff])
      | fail)
    all_goals (rw [hxV, hx_len h16]; exact ⟨rfl, rfl⟩)
theorem hx_add {a d : Nat} (hd : d < 16) (ha : a < 16 ^ 15) : IntKind.u64.wrap (IntKind.u64.wrap ((a : Int) * 16) + (d : Int)) = ((a * 16 + d : Nat) : Int) := by
  have h16 : (16 : Nat) ^ 15 = 1152921504606846976 := by decide
  rw [wr64, wr64]; omega
theorem hx_a1 {a : Nat} {c : UInt8} (h1 : 48 ≤ (c.toNat : Int)) (h2 : (c.toNat : Int) ≤ 57) (ha : a < 16 ^ 15) : isHx c = true ∧ IntKind.u64.wrap (IntKind.u64.wrap ((a : Int) * 16) + IntKind.u64.wrap (IntKind.u8.wrap ((c.toNat : Int) - 48))) = ((a * 16 + hxd c : Nat) : Int) := by
  have h16 : (16 : Nat) ^ 15 = 1152921504606846976 := by decide
  have e : hxd c = c.toNat - 48 := if_pos (by omega)
  refine ⟨?_, ?_⟩
  · unfold isHx; rw [decide_eq_true (by omega)]; rfl
  · rw [e, wr8, Int.emod_eq_of_lt (a := (c.toNat : Int) - 48) (by omega) (by omega), wr64, wr64, wr64]; omega
theorem hx_a2 {a : Nat} {c : UInt8} (h1 : 97 ≤ (c.toNat : Int)) (h2 : (c.toNat : Int) ≤ 102) (ha : a < 16 ^ 15) : isHx c = true ∧ IntKind.u64.wrap (IntKind.u64.wrap (IntKind.u64.wrap ((a : Int) * 16) + IntKind.u64.wrap (IntKind.u8.wrap ((c.toNat : Int) - 97))) + 10) = ((a * 16 + hxd c : Nat) : Int) := by
  have h16 : (16 : Nat) ^ 15 = 1152921504606846976 := by decide
  have e : hxd c = c.toNat - 87 := if_neg (by omega)
  refine ⟨?_, ?_⟩
  · unfold isHx; rw [decide_eq_true (p := 97 ≤ c.toNat ∧ c.toNat ≤ 102) (by omega), Bool.or_true]
  · rw [e, wr8, Int.emod_eq_of_lt (a := (c.toNat : Int) - 97) (by omega) (by omega), wr64, wr64, wr64, wr64]; omega
theorem hx_n {c : UInt8} (h1 : ¬ (48 ≤ (c.toNat : Int) ∧ (c.toNat : Int) ≤ 57)) (h2 : ¬ (97 ≤ (c.toNat : Int) ∧ (c.toNat : Int) ≤ 102)) : isHx c = false := by
  unfold isHx; rw [decide_eq_false (by omega), decide_eq_false (by omega)]; rfl
set_option maxRecDepth 100000 in
set_option maxHeartbeats 4000000 in
theorem c68 (l : List UInt8) (h16 : l.length = 16) : PCalls Tryd.prog 68 [.v (.string (bs l))] (.tup [.v (.int .u64 (hxV l)), .v (.bool (hxOk l))]) := by
  refine pcalls_of (E := E) (fn := Tryd.f68) 42 [.tmp 2, .tmp 3] rfl rfl rfl rfl (by decide) rfl ?_
  repeat' (first
    | (with_reducible first | refine r_seq ?_ | refine r_block ?_ | refine fork_not ?_ | refine fork_and ?_ | refine fork_or ?_ | refine chk_ok (by kernel_rfl) ?_)
    | ((with_reducible first | refine fork_dec ?_ ?_ | refine fork_eq ?_ ?_ | refine fork_ne ?_ ?_ | refine fork_intro ?_ ?_) <;> intro h)
    | ((with_reducible show False); omega)
    | ((first | (with_reducible first | refine r_exit ?_ | refine r_skip ?_ | refine r_cond ?_ | refine r_region ?_ | show VX _ _ _ _ _ _ _ | show vstep _ _ _ _ _ | show vskip _ _ _ | show withV _ _) | ((with_reducible show endA _ _ _ _ _ _ _); simp -implicitDefEqProofs only [endA])); simp -dsimp -implicitDefEqProofs (maxSteps := 1000000) (disch := first | omega | (simp only [LN]; omega)) only [go_sem, Int.reduceToNat, Int.reducePow, Nat.reducePow, Int.reduceAdd, Int.reduceMul, Int.reduceSub, Int.reduceNeg, Nat.reduceAdd, Nat.reduceMul, Nat.reduceSub, Nat.reduceEqDiff, Nat.reduceLT, Nat.reduceLeDiff])
    | ((first | (with_reducible refine r_ret ?_) | (with_reducible refine pick_viewG default (by first | omega | (simp only [LN]; omega)) (by first | omega | (simp only [LN]; omega)) ?_) | (with_reducible refine pick_own default (by first | omega | (simp only [LN]; omega)) ?_) | (with_reducible refine And.intro (by first | decide | omega | assumption | (simp only [LN]; omega)) ?_) | ((with_reducible show pickE _ _ _); first | refine pickE_intro _ ⟨by omega, by rfl⟩ ?_ | refine pickE_intro _ (by rfl) ?_) | fail); try simp -dsimp -implicitDefEqProofs (maxSteps := 1000000) (disch := first | omega | (simp only [LN]; omega)) only [go_sem, Int.reduceToNat, Int.reducePow, Nat.reducePow, Int.reduceAdd, Int.reduceMul, Int.reduceSub, Int.reduceNeg, Nat.reduceAdd, Nat.reduceMul, Nat.reduceSub, Nat.reduceEqDiff, Nat.reduceLT, Nat.reduceLeDiff])
    | fail)
  refine r_loopA (α := Nat) [0] (fun i b => [(4, .p (.v (.int .u64 (hxA 0 (l.take i))))), (5, aI i)]) (fun i b => []) (fun i => []) (fun i => i ≤ 16 ∧ ∀ j, j < i → isHx (l.getD j 0) = true) (fun i => 16 - i) (0) ?h0_2 ?hs0_2 ?I_2 ?hI_2 ?round_2
  case hI_2 => intro x; (simp -dsimp -implicitDefEqProofs (maxSteps := 1000000) (disch := first | omega | (simp only [LN]; omega)) only [go_sem, Int.reduceToNat, Int.reducePow, Nat.reducePow, Int.reduceAdd, Int.reduceMul, Int.reduceSub, Int.reduceNeg, Nat.reduceAdd, Nat.reduceMul, Nat.reduceSub, Nat.reduceEqDiff, Nat.reduceLT, Nat.reduceLeDiff]) <;> exact rfl
  case hs0_2 => refine wk_auto ?_; (simp -dsimp -implicitDefEqProofs (maxSteps := 1000000) (disch := first | omega | (simp only [LN, List.take_zero, hxA_0]; omega)) only [go_sem, Int.reduceToNat, Int.reducePow, Nat.reducePow, Int.reduceAdd, Int.reduceMul, Int.reduceSub, Int.reduceNeg, Nat.reduceAdd, Nat.reduceMul, Nat.reduceSub, Nat.reduceEqDiff, Nat.reduceLT, Nat.reduceLeDiff, List.take_zero, hxA_0]) <;> (try omega)
  case h0_2 => exact ⟨Nat.zero_le _, fun j hj => absurd hj (by omega)⟩
  case round_2 =>
    rintro i ⟨h1, h2⟩
    have hs := hx_small h2 h1
    have hc := UInt8.toNat_lt (l.getD i 0)
    repeat' (first
      | (with_reducible first | refine r_seq ?_ | refine r_block ?_ | refine fork_not ?_ | refine fork_and ?_ | refine fork_or ?_ | refine chk_ok (by kernel_rfl) ?_)
      | ((with_reducible first | refine fork_dec ?_ ?_ | refine fork_eq ?_ ?_ | refine fork_ne ?_ ?_ | refine fork_intro ?_ ?_) <;> intro h <;> try (exfalso; first | omega | exact h rfl | (revert h; decide) | (cases h; done)))
      | ((with_reducible show False); omega)
      | ((first | (with_reducible first | refine r_exit ?_ | refine r_skip ?_ | refine r_cond ?_ | refine r_region ?_ | show VX _ _ _ _ _ _ _ | show vstep _ _ _ _ _ | show vskip _ _ _ | show withV _ _) | ((with_reducible show endA _ _ _ _ _ _ _); simp -implicitDefEqProofs only [endA])); simp -dsimp -implicitDefEqProofs (maxSteps := 1000000) (disch := first | omega | (simp only [LN]; omega)) only [go_sem, Int.reduceToNat, Int.reducePow, Nat.reducePow, Int.reduceAdd, Int.reduceMul, Int.reduceSub, Int.reduceNeg, Nat.reduceAdd, Nat.reduceMul, Nat.reduceSub, Nat.reduceEqDiff, Nat.reduceLT, Nat.reduceLeDiff])
      | ((first | (with_reducible refine r_ret ?_) | (with_reducible refine pick_viewG default (by first | omega | (simp only [LN]; omega)) (by first | omega | (simp only [LN]; omega)) ?_) | (with_reducible refine pick_own default (by first | omega | (simp only [LN]; omega)) ?_) | (with_reducible refine And.intro (by first | decide | omega | assumption | (simp only [LN]; omega)) ?_) | ((with_reducible show pickE _ _ _); first | refine pickE_intro _ ⟨by omega, by rfl⟩ ?_ | refine pickE_intro _ (by rfl) ?_) | fail); try simp -dsimp -implicitDefEqProofs (maxSteps := 1000000) (disch := first | omega | (simp only [LN]; omega)) only [go_sem, Int.reduceToNat, Int.reducePow, Nat.reducePow, Int.reduceAdd, Int.reduceMul, Int.reduceSub, Int.reduceNeg, Nat.reduceAdd, Nat.reduceMul, Nat.reduceSub, Nat.reduceEqDiff, Nat.reduceLT, Nat.reduceLeDiff])
      | fail)
    all_goals first
      | (have hs2 : hxA 0 (l.take i) < 16 ^ 15 := Nat.lt_of_lt_of_le hs (Nat.pow_le_pow_right (by decide) (by omega))
         have q1 : 48 ≤ ((l.getD i 0).toNat : Int) := by omega
         have q2 : ((l.getD i 0).toNat : Int) ≤ 57 := by omega
         have q3 : i < l.length := by omega
         obtain ⟨hx, e1⟩ := hx_a1 (c := l.getD i 0) q1 q2 hs2
         rw [← take_hx (l := l) (i := i) q3] at e1
         (refine loopQ_next (i + 1) ?_ ?_ ?_; (exact ⟨by omega, ext_hx h2 hx⟩); (show _ < _; omega); (simp -dsimp -implicitDefEqProofs (maxSteps := 1000000) (disch := first | omega | (simp only [LN, e1]; omega)) only [go_sem, Int.reduceToNat, Int.reducePow, Nat.reducePow, Int.reduceAdd, Int.reduceMul, Int.reduceSub, Int.reduceNeg, Nat.reduceAdd, Nat.reduceMul, Nat.reduceSub, Nat.reduceEqDiff, Nat.reduceLT, Nat.reduceLeDiff, e1]; try trivial)))
      | (have hs2 : hxA 0 (l.take i) < 16 ^ 15 := Nat.lt_of_lt_of_le hs (Nat.pow_le_pow_right (by decide) (by omega))
         have q1 : 97 ≤ ((l.getD i 0).toNat : Int) := by omega
         have q2 : ((l.getD i 0).toNat : Int) ≤ 102 := by omega
         have q3 : i < l.length := by omega
         obtain ⟨hx, e1⟩ := hx_a2 (c := l.getD i 0) q1 q2 hs2
         rw [← take_hx (l := l) (i := i) q3] at e1
         (refine loopQ_next (i + 1) ?_ ?_ ?_; (exact ⟨by omega, ext_hx h2 hx⟩); (show _ < _; omega); (simp -dsimp -implicitDefEqProofs (maxSteps := 1000000) (disch := first | omega | (simp only [LN, e1]; omega)) only [go_sem, Int.reduceToNat, Int.reducePow, Nat.reducePow, Int.reduceAdd, Int.reduceMul, Int.reduceSub, Int.reduceNeg, Nat.reduceAdd, Nat.reduceMul, Nat.reduceSub, Nat.reduceEqDiff, Nat.reduceLT, Nat.reduceLeDiff, e1]; try trivial)))
      | (have q1 : ¬ (48 ≤ ((l.getD i 0).toNat : Int) ∧ ((l.getD i 0).toNat : Int) ≤ 57) := by omega
         have q2 : ¬ (97 ≤ ((l.getD i 0).toNat : Int) ∧ ((l.getD i 0).toNat : Int) ≤ 102) := by omega
         have q3 : i < l.length := by omega
         rw [hxV, hx_no (l := l) (i := i) q3 (hx_n q1 q2)]; exact ⟨rfl, rfl⟩)
      | (have e := hx_yes h16 (fun j hj => h2 j (by omega))
         rw [hxV, if_pos e, e]; exact ⟨rfl, rfl⟩)
      | trace_state
end Go.Proofs.YtcnbngflehiphaaDoor
