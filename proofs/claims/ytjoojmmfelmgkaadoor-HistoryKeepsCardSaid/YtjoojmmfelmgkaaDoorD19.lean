/- Contracts of functions of this program, and the plain facts that they rest on. No conditions. -/
import Derived.Test.YtjoojmmfelmgkaaDoorD18
set_option linter.unusedSimpArgs false
set_option linter.unusedVariables false
namespace Go.Proofs.YtjoojmmfelmgkaaDoor
open Go Go.Ab
attribute [local irreducible] callK callF loopQ vstep vskip pickE hideP
set_option maxRecDepth 100000
attribute [local go_sem] eC rC eE hc hP hW hX oW oP sR oH newC eS eT
attribute [local irreducible] numL kindL kinds boolL argT evsT beginH
theorem wr64 (x : Int) : IntKind.u64.wrap x = x % 18446744073709551616 := IntKind.wrap_u64 x
theorem dec_step (u : Nat) (h : ¬ u < 10) : Lib.decDigits u = Lib.decDigits (u / 10) ++ [UInt8.ofNat (48 + u % 10)] := by rw [Lib.decDigits, dif_neg h]
theorem dec_one (u : Nat) (h : u < 10) : Lib.decDigits u = [UInt8.ofNat (48 + u)] := by rw [Lib.decDigits, dif_pos h]
theorem app_bs2 (a b : List UInt8) : bs a ++ bs b = bs (a ++ b) := app_bs a b
theorem tm10 (u : Nat) : Int.tmod (u : Int) 10 = (u : Int) % 10 := rfl
theorem td10 (u : Nat) : Int.tdiv (u : Int) 10 = (u : Int) / 10 := rfl
theorem dU (u : Nat) : UInt8.ofNat (IntKind.u8.wrap (IntKind.u64.wrap (48 + (u : Int) % 10))).toNat = UInt8.ofNat (48 + u % 10) := by
  rw [wr8, wr64]; congr 1; omega
theorem dU1 (u : Nat) (h : u < 10) : UInt8.ofNat (IntKind.u8.wrap (IntKind.u64.wrap (48 + (u : Int)))).toNat = UInt8.ofNat (48 + u) := by
  rw [wr8, wr64]; congr 1; omega
set_option maxRecDepth 100000 in
set_option maxHeartbeats 4000000 in
theorem c56 (n : Nat) (h1 : n ≤ 18446744073709551615) : PCalls Tryd.prog 56 [.v (.int .u64 n)] (.v (.string (bs (Lib.decDigits n)))) := by
  refine pcalls_of (E := E) (fn := Tryd.f56) 23 [.tmp 2] rfl rfl rfl rfl (by decide) rfl ?_
  have hnd := Lib.nDigits_le20 n (by omega)
  repeat' (first
    | (with_reducible first | refine r_seq ?_ | refine r_block ?_ | refine fork_not ?_ | refine fork_and ?_ | refine fork_or ?_ | refine chk_ok (by kernel_rfl) ?_)
    | ((with_reducible first | refine fork_dec ?_ ?_ | refine fork_eq ?_ ?_ | refine fork_ne ?_ ?_ | refine fork_intro ?_ ?_) <;> intro h)
    | ((with_reducible show False); omega)
    | ((first | (with_reducible first | refine r_exit ?_ | refine r_skip ?_ | refine r_cond ?_ | refine r_region ?_ | show VX _ _ _ _ _ _ _ | show vstep _ _ _ _ _ | show vskip _ _ _ | show withV _ _) | ((with_reducible show endA _ _ _ _ _ _ _); simp -implicitDefEqProofs only [endA])); simp -dsimp -implicitDefEqProofs (maxSteps := 1000000) (disch := first | omega | (simp only [LN]; omega)) only [go_sem, Int.reduceToNat, Int.reducePow, Nat.reducePow, Int.reduceAdd, Int.reduceMul, Int.reduceSub, Int.reduceNeg, Nat.reduceAdd, Nat.reduceMul, Nat.reduceSub, Nat.reduceEqDiff, Nat.reduceLT, Nat.reduceLeDiff])
    | ((first | (with_reducible refine r_ret ?_) | (with_reducible refine pick_viewG default (by first | omega | (simp only [LN]; omega)) (by first | omega | (simp only [LN]; omega)) ?_) | (with_reducible refine pick_own default (by first | omega | (simp only [LN]; omega)) ?_) | (with_reducible refine And.intro (by first | decide | omega | assumption | (simp only [LN]; omega)) ?_) | ((with_reducible show pickE _ _ _); first | refine pickE_intro _ ⟨by omega, by rfl⟩ ?_ | refine pickE_intro _ (by rfl) ?_) | fail); try simp -dsimp -implicitDefEqProofs (maxSteps := 1000000) (disch := first | omega | (simp only [LN]; omega)) only [go_sem, Int.reduceToNat, Int.reducePow, Nat.reducePow, Int.reduceAdd, Int.reduceMul, Int.reduceSub, Int.reduceNeg, Nat.reduceAdd, Nat.reduceMul, Nat.reduceSub, Nat.reduceEqDiff, Nat.reduceLT, Nat.reduceLeDiff])
    | fail)
  refine r_loopA (α := Nat × List UInt8) [] (fun q b => [(0, .p (.v (.int .u64 q.1))), (3, .p (.v (.string (bs q.2))))]) (fun q b => []) (fun q => []) (fun q => q.1 ≤ n ∧ (q.2.length + Lib.nDigits q.1 ≤ 20) ∧ Lib.decDigits n = Lib.decDigits q.1 ++ q.2) (fun q => q.1) ((n, [])) ?h0_1 ?hs0_1 ?I_1 ?hI_1 ?round_1
  case hI_1 => intro x; (simp -dsimp -implicitDefEqProofs (maxSteps := 1000000) (disch := first | omega | (simp only [LN]; omega)) only [go_sem, Int.reduceToNat, Int.reducePow, Nat.reducePow, Int.reduceAdd, Int.reduceMul, Int.reduceSub, Int.reduceNeg, Nat.reduceAdd, Nat.reduceMul, Nat.reduceSub, Nat.reduceEqDiff, Nat.reduceLT, Nat.reduceLeDiff]) <;> exact rfl
  case hs0_1 => refine wk_auto ?_; (simp -dsimp -implicitDefEqProofs (maxSteps := 1000000) (disch := first | omega | (simp only [LN]; omega)) only [go_sem, Int.reduceToNat, Int.reducePow, Nat.reducePow, Int.reduceAdd, Int.reduceMul, Int.reduceSub, Int.reduceNeg, Nat.reduceAdd, Nat.reduceMul, Nat.reduceSub, Nat.reduceEqDiff, Nat.reduceLT, Nat.reduceLeDiff]) <;> (try omega)
  case h0_1 => exact ⟨Nat.le_refl _, by simpa using hnd, by simp⟩
  case round_1 =>
    rintro ⟨u, acc⟩ ⟨g1, g2, g4⟩
    dsimp only at g1 g2 g4
    repeat' (first
      | (with_reducible first | refine r_seq ?_ | refine r_block ?_ | refine fork_not ?_ | refine fork_and ?_ | refine fork_or ?_ | refine chk_ok (by kernel_rfl) ?_)
      | ((with_reducible first | refine fork_dec ?_ ?_ | refine fork_eq ?_ ?_ | refine fork_ne ?_ ?_ | refine fork_intro ?_ ?_) <;> intro h)
      | ((with_reducible show False); omega)
      | ((first | (with_reducible first | refine r_exit ?_ | refine r_skip ?_ | refine r_cond ?_ | refine r_region ?_ | show VX _ _ _ _ _ _ _ | show vstep _ _ _ _ _ | show vskip _ _ _ | show withV _ _) | ((with_reducible show endA _ _ _ _ _ _ _); simp -implicitDefEqProofs only [endA])); simp -dsimp -implicitDefEqProofs (maxSteps := 1000000) (disch := first | omega | (simp only [LN]; omega)) only [go_sem, Int.reduceToNat, Int.reducePow, Nat.reducePow, Int.reduceAdd, Int.reduceMul, Int.reduceSub, Int.reduceNeg, Nat.reduceAdd, Nat.reduceMul, Nat.reduceSub, Nat.reduceEqDiff, Nat.reduceLT, Nat.reduceLeDiff])
      | ((first | (with_reducible refine r_ret ?_) | (with_reducible refine pick_viewG default (by first | omega | (simp only [LN]; omega)) (by first | omega | (simp only [LN]; omega)) ?_) | (with_reducible refine pick_own default (by first | omega | (simp only [LN]; omega)) ?_) | (with_reducible refine And.intro (by first | decide | omega | assumption | (simp only [LN]; omega)) ?_) | ((with_reducible show pickE _ _ _); first | refine pickE_intro _ ⟨by omega, by rfl⟩ ?_ | refine pickE_intro _ (by rfl) ?_) | fail); try simp -dsimp -implicitDefEqProofs (maxSteps := 1000000) (disch := first | omega | (simp only [LN]; omega)) only [go_sem, Int.reduceToNat, Int.reducePow, Nat.reducePow, Int.reduceAdd, Int.reduceMul, Int.reduceSub, Int.reduceNeg, Nat.reduceAdd, Nat.reduceMul, Nat.reduceSub, Nat.reduceEqDiff, Nat.reduceLT, Nat.reduceLeDiff])
      | fail)
    · have h2 : ¬ u < 10 := by omega
      have g5 := Lib.nDigits_big h2
      rw [dec_step u h2, List.append_assoc] at g4
      (refine loopQ_next ((u / 10, UInt8.ofNat (48 + u % 10) :: acc)) ?_ ?_ ?_; ((exact ⟨by dsimp only; omega, by simp only [List.length_cons]; omega, g4⟩)); (show _ < _; omega); (simp -dsimp -implicitDefEqProofs (maxSteps := 1000000) (disch := first | omega | (simp only [LN, tm10, td10, dU]; omega)) only [go_sem, Int.reduceToNat, Int.reducePow, Nat.reducePow, Int.reduceAdd, Int.reduceMul, Int.reduceSub, Int.reduceNeg, Nat.reduceAdd, Nat.reduceMul, Nat.reduceSub, Nat.reduceEqDiff, Nat.reduceLT, Nat.reduceLeDiff, tm10, td10, dU]; try trivial))
      all_goals first | (congr 1; rw [wr64]; omega) | trace_state
    · have h2 : u < 10 := by omega
      rw [g4, dec_one u h2, dU1 u h2]; rfl
set_option maxRecDepth 100000 in
set_option maxHeartbeats 4000000 in
theorem c54 (n : Int) (h1 : -9223372036854775808 ≤ n ∧ n ≤ 9223372036854775807) : PCalls Tryd.prog 54 [.v (.int .i64 n)] (.v (.string (bs (numL n)))) := by
  refine pcalls_of (E := E) (fn := Tryd.f54) 15 [.tmp 2] rfl rfl rfl rfl (by decide) rfl ?_
  have hl := numL_len (n := n) (by omega)
  by_cases h2 : n < 0
  · have e1 : numL n = 45 :: Lib.decDigits n.natAbs := by unfold numL Lib.itoa; rw [if_pos h2]
    have e2 : IntKind.u64.wrap (IntKind.u64.wrap (-(n + 1)) + 1) = (n.natAbs : Int) := by rw [wr64, wr64]; omega
    have e3 : IntKind.u64.wrap (1 + IntKind.u64.wrap (-(n + 1))) = (n.natAbs : Int) := by rw [wr64, wr64]; omega
    have hl2 : (Lib.decDigits n.natAbs).length ≤ 21 := by rw [e1] at hl; simp at hl; omega
    repeat' (first
      | (with_reducible first | refine r_seq ?_ | refine r_block ?_ | refine fork_not ?_ | refine fork_and ?_ | refine fork_or ?_ | refine chk_ok (by kernel_rfl) ?_)
      | ((with_reducible first | refine fork_dec ?_ ?_ | refine fork_eq ?_ ?_ | refine fork_ne ?_ ?_ | refine fork_intro ?_ ?_) <;> intro h <;> try (exfalso; first | omega | exact h rfl | (revert h; decide) | (cases h; done)))
      | ((with_reducible show False); omega)
      | ((first | (with_reducible first | refine r_exit ?_ | refine r_skip ?_ | refine r_cond ?_ | refine r_region ?_ | show VX _ _ _ _ _ _ _ | show vstep _ _ _ _ _ | show vskip _ _ _ | show withV _ _) | ((with_reducible show endA _ _ _ _ _ _ _); simp -implicitDefEqProofs only [endA])); simp -dsimp -implicitDefEqProofs (maxSteps := 1000000) (disch := first | omega | (simp only [LN, e2]; omega)) only [go_sem, Int.reduceToNat, Int.reducePow, Nat.reducePow, Int.reduceAdd, Int.reduceMul, Int.reduceSub, Int.reduceNeg, Nat.reduceAdd, Nat.reduceMul, Nat.reduceSub, Nat.reduceEqDiff, Nat.reduceLT, Nat.reduceLeDiff, e2])
      | ((first | (with_reducible refine r_ret ?_) | (with_reducible refine pick_viewG default (by first | omega | (simp only [LN, e2]; omega)) (by first | omega | (simp only [LN, e2]; omega)) ?_) | (with_reducible refine pick_own default (by first | omega | (simp only [LN, e2]; omega)) ?_) | (with_reducible refine And.intro (by first | decide | omega | assumption | (simp only [LN, e2]; omega)) ?_) | ((with_reducible apply callK_pure); (exact c56 n.natAbs (by omega))) | ((with_reducible apply callF_lend); (exact c56 n.natAbs (by omega)); rfl) | ((with_reducible apply callF_go); (exact c56 n.natAbs (by omega))) | ((with_reducible show pickE _ _ _); first | refine pickE_intro _ ⟨by omega, by rfl⟩ ?_ | refine pickE_intro _ (by rfl) ?_) | fail); try simp -dsimp -implicitDefEqProofs (maxSteps := 1000000) (disch := first | omega | (simp only [LN, e2]; omega)) only [go_sem, Int.reduceToNat, Int.reducePow, Nat.reducePow, Int.reduceAdd, Int.reduceMul, Int.reduceSub, Int.reduceNeg, Nat.reduceAdd, Nat.reduceMul, Nat.reduceSub, Nat.reduceEqDiff, Nat.reduceLT, Nat.reduceLeDiff, e2])
      | fail)
    all_goals first | (rw [e1]; first | done | rfl) | trace_state
  · have e1 : numL n = Lib.decDigits n.toNat := numL_pos (by omega)
    have e2 : IntKind.u64.wrap n = (n.toNat : Int) := by rw [wr64]; omega
    repeat' (first
      | (with_reducible first | refine r_seq ?_ | refine r_block ?_ | refine fork_not ?_ | refine fork_and ?_ | refine fork_or ?_ | refine chk_ok (by kernel_rfl) ?_)
      | ((with_reducible first | refine fork_dec ?_ ?_ | refine fork_eq ?_ ?_ | refine fork_ne ?_ ?_ | refine fork_intro ?_ ?_) <;> intro h <;> try (exfalso; first | omega | exact h rfl | (revert h; decide) | (cases h; done)))
      | ((with_reducible show False); omega)
      | ((first | (with_reducible first | refine r_exit ?_ | refine r_skip ?_ | refine r_cond ?_ | refine r_region ?_ | show VX _ _ _ _ _ _ _ | show vstep _ _ _ _ _ | show vskip _ _ _ | show withV _ _) | ((with_reducible show endA _ _ _ _ _ _ _); simp -implicitDefEqProofs only [endA])); simp -dsimp -implicitDefEqProofs (maxSteps := 1000000) (disch := first | omega | (simp only [LN, e2]; omega)) only [go_sem, Int.reduceToNat, Int.reducePow, Nat.reducePow, Int.reduceAdd, Int.reduceMul, Int.reduceSub, Int.reduceNeg, Nat.reduceAdd, Nat.reduceMul, Nat.reduceSub, Nat.reduceEqDiff, Nat.reduceLT, Nat.reduceLeDiff, e2])
      | ((first | (with_reducible refine r_ret ?_) | (with_reducible refine pick_viewG default (by first | omega | (simp only [LN, e2]; omega)) (by first | omega | (simp only [LN, e2]; omega)) ?_) | (with_reducible refine pick_own default (by first | omega | (simp only [LN, e2]; omega)) ?_) | (with_reducible refine And.intro (by first | decide | omega | assumption | (simp only [LN, e2]; omega)) ?_) | ((with_reducible apply callK_pure); (exact c56 n.toNat (by omega))) | ((with_reducible apply callF_lend); (exact c56 n.toNat (by omega)); rfl) | ((with_reducible apply callF_go); (exact c56 n.toNat (by omega))) | ((with_reducible show pickE _ _ _); first | refine pickE_intro _ ⟨by omega, by rfl⟩ ?_ | refine pickE_intro _ (by rfl) ?_) | fail); try simp -dsimp -implicitDefEqProofs (maxSteps := 1000000) (disch := first | omega | (simp only [LN, e2]; omega)) only [go_sem, Int.reduceToNat, Int.reducePow, Nat.reducePow, Int.reduceAdd, Int.reduceMul, Int.reduceSub, Int.reduceNeg, Nat.reduceAdd, Nat.reduceMul, Nat.reduceSub, Nat.reduceEqDiff, Nat.reduceLT, Nat.reduceLeDiff, e2])
      | fail)
    all_goals first | (rw [e1]) | trace_state
theorem c56n (n : Int) (h : 0 ≤ n ∧ n ≤ 18446744073709551615) : PCalls Tryd.prog 56 [.v (.int .u64 n)] (.v (.string (bs (numL n)))) := by
  have := c56 n.toNat (by omega)
  rw [show ((n.toNat : Nat) : Int) = n by omega, ← numL_pos h.1] at this
  exact this
def names2 : List (List UInt8) := [] :: kinds
theorem names2_map : names2.map eT = [eT [], eT [114, 101, 97, 100], eT [119, 114, 105, 116, 101], eT [99, 97, 115], eT [103, 101, 116], eT [112, 117, 116], eT [100, 101, 108, 101, 116, 101], eT [101, 110, 113, 117, 101, 117, 101], eT [100, 101, 113, 117, 101, 117, 101], eT [97, 100, 100]] := by unfold names2 kinds; rfl
theorem names2_len : names2.length = 10 := by unfold names2 kinds; rfl
theorem names2_get (k : Int) (h : 1 ≤ k ∧ k ≤ 9) : names2.getD k.toNat default = kindL k := by
  unfold names2 kindL
  rw [show k.toNat = (k - 1).toNat + 1 by omega, List.getD_cons_succ]
attribute [local irreducible] names2
set_option maxRecDepth 100000 in
set_option maxHeartbeats 4000000 in
theorem c55  : PCalls Tryd.prog 55 [] (.view 1 (names2.map eT)) := by
  refine pcalls_of (E := E) (fn := Tryd.f55) 2 [.tmp 0] rfl rfl rfl rfl (by decide) rfl ?_
  repeat' (first
    | (with_reducible first | refine r_seq ?_ | refine r_block ?_ | refine fork_not ?_ | refine fork_and ?_ | refine fork_or ?_ | refine chk_ok (by kernel_rfl) ?_)
    | ((with_reducible first | refine fork_dec ?_ ?_ | refine fork_eq ?_ ?_ | refine fork_ne ?_ ?_ | refine fork_intro ?_ ?_) <;> intro h)
    | ((with_reducible show False); omega)
    | ((first | (with_reducible first | refine r_exit ?_ | refine r_skip ?_ | refine r_cond ?_ | refine r_region ?_ | show VX _ _ _ _ _ _ _ | show vstep _ _ _ _ _ | show vskip _ _ _ | show withV _ _) | ((with_reducible show endA _ _ _ _ _ _ _); simp -implicitDefEqProofs only [endA])); simp -dsimp -implicitDefEqProofs (maxSteps := 1000000) (disch := first | omega | (simp only [LN, names2_map, eT]; omega)) only [go_sem, Int.reduceToNat, Int.reducePow, Nat.reducePow, Int.reduceAdd, Int.reduceMul, Int.reduceSub, Int.reduceNeg, Nat.reduceAdd, Nat.reduceMul, Nat.reduceSub, Nat.reduceEqDiff, Nat.reduceLT, Nat.reduceLeDiff, names2_map, eT])
    | ((first | (with_reducible refine r_ret ?_) | (with_reducible refine pick_viewG default (by first | omega | (simp only [LN, names2_map, eT]; omega)) (by first | omega | (simp only [LN, names2_map, eT]; omega)) ?_) | (with_reducible refine pick_own default (by first | omega | (simp only [LN, names2_map, eT]; omega)) ?_) | (with_reducible refine And.intro (by first | decide | omega | assumption | (simp only [LN, names2_map, eT]; omega)) ?_) | ((with_reducible show pickE _ _ _); first | refine pickE_intro _ ⟨by omega, by rfl⟩ ?_ | refine pickE_intro _ (by rfl) ?_) | fail); try simp -dsimp -implicitDefEqProofs (maxSteps := 1000000) (disch := first | omega | (simp only [LN, names2_map, eT]; omega)) only [go_sem, Int.reduceToNat, Int.reducePow, Nat.reducePow, Int.reduceAdd, Int.reduceMul, Int.reduceSub, Int.reduceNeg, Nat.reduceAdd, Nat.reduceMul, Nat.reduceSub, Nat.reduceEqDiff, Nat.reduceLT, Nat.reduceLeDiff, names2_map, eT])
    | fail)
  all_goals rfl
theorem begL_e (c : C) : beginT c = [98, 101, 103, 105, 110, 32] ++ numL c.th ++ [32] ++ kindL c.k ++ [32] ++ numL c.key ++ [32] ++ numL c.val ++ [32] ++ numL c.old := by
  rw [beg_e]; simp only [List.append_assoc, List.nil_append]
set_option maxRecDepth 100000 in
set_option maxHeartbeats 4000000 in
theorem c40 (c : C) (h : RngI c) : PCalls Tryd.prog 40 [rC c] (.v (.string (bs (beginT c)))) := by
  refine pcalls_of (E := E) (fn := Tryd.f40) 33 [.tmp 2] rfl rfl rfl rfl (by decide) rfl ?_
  unfold RngI at h
  have l1 := numL_len (n := c.th) (by omega)
  have l2 := numL_len (n := c.key) (by omega)
  have l3 := numL_len (n := c.val) (by omega)
  have l4 := numL_len (n := c.old) (by omega)
  have l5 := kindL_len h.2.1
  have l6 := names2_get c.k h.2.1
  repeat' (first
    | (with_reducible first | refine r_seq ?_ | refine r_block ?_ | refine fork_not ?_ | refine fork_and ?_ | refine fork_or ?_ | refine chk_ok (by kernel_rfl) ?_)
    | ((with_reducible first | refine fork_dec ?_ ?_ | refine fork_eq ?_ ?_ | refine fork_ne ?_ ?_ | refine fork_intro ?_ ?_) <;> intro h <;> try (exfalso; first | omega | exact h rfl | (revert h; decide) | (cases h; done)))
    | ((with_reducible show False); omega)
    | ((first | (with_reducible first | refine r_exit ?_ | refine r_skip ?_ | refine r_cond ?_ | refine r_region ?_ | show VX _ _ _ _ _ _ _ | show vstep _ _ _ _ _ | show vskip _ _ _ | show withV _ _) | ((with_reducible show endA _ _ _ _ _ _ _); simp -implicitDefEqProofs only [endA])); simp -dsimp -implicitDefEqProofs (maxSteps := 1000000) (disch := first | omega | (simp only [LN, l6, names2_len]; omega)) only [go_sem, Int.reduceToNat, Int.reducePow, Nat.reducePow, Int.reduceAdd, Int.reduceMul, Int.reduceSub, Int.reduceNeg, Nat.reduceAdd, Nat.reduceMul, Nat.reduceSub, Nat.reduceEqDiff, Nat.reduceLT, Nat.reduceLeDiff, l6, names2_len])
    | ((first | (with_reducible refine r_ret ?_) | (with_reducible refine pick_viewG default (by first | omega | (simp only [LN, l6, names2_len]; omega)) (by first | omega | (simp only [LN, l6, names2_len]; omega)) ?_) | (with_reducible refine pick_own default (by first | omega | (simp only [LN, l6, names2_len]; omega)) ?_) | (with_reducible refine And.intro (by first | decide | omega | assumption | (simp only [LN, l6, names2_len]; omega)) ?_) | ((with_reducible apply callK_pure); (first | exact c54 c.th (by omega) | exact c55 | exact c56n c.key (by omega) | exact c56n c.val (by omega) | exact c56n c.old (by omega) | fail)) | ((with_reducible apply callF_lend); (first | exact c54 c.th (by omega) | exact c55 | exact c56n c.key (by omega) | exact c56n c.val (by omega) | exact c56n c.old (by omega) | fail); rfl) | ((with_reducible apply callF_go); (first | exact c54 c.th (by omega) | exact c55 | exact c56n c.key (by omega) | exact c56n c.val (by omega) | exact c56n c.old (by omega) | fail)) | ((with_reducible show pickE _ _ _); first | refine pickE_intro _ ⟨by omega, by rfl⟩ ?_ | refine pickE_intro _ (by rfl) ?_) | fail); try simp -dsimp -implicitDefEqProofs (maxSteps := 1000000) (disch := first | omega | (simp only [LN, l6, names2_len]; omega)) only [go_sem, Int.reduceToNat, Int.reducePow, Nat.reducePow, Int.reduceAdd, Int.reduceMul, Int.reduceSub, Int.reduceNeg, Nat.reduceAdd, Nat.reduceMul, Nat.reduceSub, Nat.reduceEqDiff, Nat.reduceLT, Nat.reduceLeDiff, l6, names2_len])
    | fail)
  all_goals first | (rw [begL_e]; first | done | rfl) | trace_state
set_option maxRecDepth 100000 in
set_option maxHeartbeats 4000000 in
theorem c41 (i rv : Int) (ok : Bool) (code : Int) (h0 : 0 ≤ i ∧ i ≤ 1000000) (h1 : 0 ≤ rv ∧ rv ≤ 18446744073709551615) (h2 : -9223372036854775808 ≤ code ∧ code ≤ 9223372036854775807) : PCalls Tryd.prog 41 [.v (.int .i64 i), sR rv ok code] (.v (.string (bs (endT i rv ok code)))) := by
  refine pcalls_of (E := E) (fn := Tryd.f41) 24 [.tmp 4] rfl rfl rfl rfl (by decide) rfl ?_
  have l1 := numL_len (n := i) (by omega)
  have l2 := numL_len (n := rv) (by omega)
  have l3 := numL_len (n := code) (by omega)
  cases ok
  · repeat' (first
      | (with_reducible first | refine r_seq ?_ | refine r_block ?_ | refine fork_not ?_ | refine fork_and ?_ | refine fork_or ?_ | refine chk_ok (by kernel_rfl) ?_)
      | ((with_reducible first | refine fork_dec ?_ ?_ | refine fork_eq ?_ ?_ | refine fork_ne ?_ ?_ | refine fork_intro ?_ ?_) <;> intro h <;> try (exfalso; first | omega | exact h rfl | (revert h; decide) | (cases h; done)))
      | ((with_reducible show False); omega)
      | ((first | (with_reducible first | refine r_exit ?_ | refine r_skip ?_ | refine r_cond ?_ | refine r_region ?_ | show VX _ _ _ _ _ _ _ | show vstep _ _ _ _ _ | show vskip _ _ _ | show withV _ _) | ((with_reducible show endA _ _ _ _ _ _ _); simp -implicitDefEqProofs only [endA])); simp -dsimp -implicitDefEqProofs (maxSteps := 1000000) (disch := first | omega | (simp only [LN]; omega)) only [go_sem, Int.reduceToNat, Int.reducePow, Nat.reducePow, Int.reduceAdd, Int.reduceMul, Int.reduceSub, Int.reduceNeg, Nat.reduceAdd, Nat.reduceMul, Nat.reduceSub, Nat.reduceEqDiff, Nat.reduceLT, Nat.reduceLeDiff])
      | ((first | (with_reducible refine r_ret ?_) | (with_reducible refine pick_viewG default (by first | omega | (simp only [LN]; omega)) (by first | omega | (simp only [LN]; omega)) ?_) | (with_reducible refine pick_own default (by first | omega | (simp only [LN]; omega)) ?_) | (with_reducible refine And.intro (by first | decide | omega | assumption | (simp only [LN]; omega)) ?_) | ((with_reducible apply callK_pure); (first | exact c54 i (by omega) | exact c56n rv h1 | exact c54 code h2 | fail)) | ((with_reducible apply callF_lend); (first | exact c54 i (by omega) | exact c56n rv h1 | exact c54 code h2 | fail); rfl) | ((with_reducible apply callF_go); (first | exact c54 i (by omega) | exact c56n rv h1 | exact c54 code h2 | fail)) | ((with_reducible show pickE _ _ _); first | refine pickE_intro _ ⟨by omega, by rfl⟩ ?_ | refine pickE_intro _ (by rfl) ?_) | fail); try simp -dsimp -implicitDefEqProofs (maxSteps := 1000000) (disch := first | omega | (simp only [LN]; omega)) only [go_sem, Int.reduceToNat, Int.reducePow, Nat.reducePow, Int.reduceAdd, Int.reduceMul, Int.reduceSub, Int.reduceNeg, Nat.reduceAdd, Nat.reduceMul, Nat.reduceSub, Nat.reduceEqDiff, Nat.reduceLT, Nat.reduceLeDiff])
      | fail)
    all_goals first | (unfold endT; rw [boolL_f]; first | done | rfl) | trace_state
  · repeat' (first
      | (with_reducible first | refine r_seq ?_ | refine r_block ?_ | refine fork_not ?_ | refine fork_and ?_ | refine fork_or ?_ | refine chk_ok (by kernel_rfl) ?_)
      | ((with_reducible first | refine fork_dec ?_ ?_ | refine fork_eq ?_ ?_ | refine fork_ne ?_ ?_ | refine fork_intro ?_ ?_) <;> intro h <;> try (exfalso; first | omega | exact h rfl | (revert h; decide) | (cases h; done)))
      | ((with_reducible show False); omega)
      | ((first | (with_reducible first | refine r_exit ?_ | refine r_skip ?_ | refine r_cond ?_ | refine r_region ?_ | show VX _ _ _ _ _ _ _ | show vstep _ _ _ _ _ | show vskip _ _ _ | show withV _ _) | ((with_reducible show endA _ _ _ _ _ _ _); simp -implicitDefEqProofs only [endA])); simp -dsimp -implicitDefEqProofs (maxSteps := 1000000) (disch := first | omega | (simp only [LN]; omega)) only [go_sem, Int.reduceToNat, Int.reducePow, Nat.reducePow, Int.reduceAdd, Int.reduceMul, Int.reduceSub, Int.reduceNeg, Nat.reduceAdd, Nat.reduceMul, Nat.reduceSub, Nat.reduceEqDiff, Nat.reduceLT, Nat.reduceLeDiff])
      | ((first | (with_reducible refine r_ret ?_) | (with_reducible refine pick_viewG default (by first | omega | (simp only [LN]; omega)) (by first | omega | (simp only [LN]; omega)) ?_) | (with_reducible refine pick_own default (by first | omega | (simp only [LN]; omega)) ?_) | (with_reducible refine And.intro (by first | decide | omega | assumption | (simp only [LN]; omega)) ?_) | ((with_reducible apply callK_pure); (first | exact c54 i (by omega) | exact c56n rv h1 | exact c54 code h2 | fail)) | ((with_reducible apply callF_lend); (first | exact c54 i (by omega) | exact c56n rv h1 | exact c54 code h2 | fail); rfl) | ((with_reducible apply callF_go); (first | exact c54 i (by omega) | exact c56n rv h1 | exact c54 code h2 | fail)) | ((with_reducible show pickE _ _ _); first | refine pickE_intro _ ⟨by omega, by rfl⟩ ?_ | refine pickE_intro _ (by rfl) ?_) | fail); try simp -dsimp -implicitDefEqProofs (maxSteps := 1000000) (disch := first | omega | (simp only [LN]; omega)) only [go_sem, Int.reduceToNat, Int.reducePow, Nat.reducePow, Int.reduceAdd, Int.reduceMul, Int.reduceSub, Int.reduceNeg, Nat.reduceAdd, Nat.reduceMul, Nat.reduceSub, Nat.reduceEqDiff, Nat.reduceLT, Nat.reduceLeDiff])
      | fail)
    all_goals first | (unfold endT; rw [boolL_t]; first | done | rfl) | trace_state
end Go.Proofs.YtjoojmmfelmgkaaDoor
