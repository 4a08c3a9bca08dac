/- Contracts of functions of this program, and the plain facts that they rest on. No conditions. -/
import Derived.Test.YtcnbngflehiphaaDoorD6
set_option linter.unusedSimpArgs false
set_option linter.unusedVariables false
namespace Go.Proofs.YtcnbngflehiphaaDoor
open Go Go.Ab
attribute [local irreducible] callK callF loopQ vstep vskip pickE hideP
attribute [local go_sem] eI
set_option maxRecDepth 100000
set_option maxRecDepth 100000 in
set_option maxHeartbeats 4000000 in
theorem c26 (l : List UInt8) (o : Int) (hl : l.length ≤ 9000000) (h0 : 0 ≤ o ∧ o ≤ 18446744073709551615) : PCalls Tryd.prog 26 [.view 1 (l.map eB), .v (.int .u64 o)] (.v (.int .i64 (checkM l o))) := by
  refine pcalls_facts ⟨_, rfl, rfl, by decide⟩ fun hf => ?_
  simp only [go_sem, big] at hf
  refine pcalls_of (E := E) (fn := Tryd.f26) 13 [.tmp 4] rfl rfl rfl rfl (by decide) rfl ?_
  repeat' (first
    | (with_reducible first | refine r_seq ?_ | refine r_block ?_ | refine fork_not ?_ | refine fork_and ?_ | refine fork_or ?_ | refine chk_ok (by kernel_rfl) ?_)
    | ((with_reducible first | refine fork_dec ?_ ?_ | refine fork_eq ?_ ?_ | refine fork_ne ?_ ?_ | refine fork_intro ?_ ?_) <;> intro h)
    | ((with_reducible show False); omega)
    | ((first | (with_reducible first | refine r_exit ?_ | refine r_skip ?_ | refine r_cond ?_ | refine r_region ?_ | show VX _ _ _ _ _ _ _ | show vstep _ _ _ _ _ | show vskip _ _ _ | show withV _ _) | ((with_reducible show endA _ _ _ _ _ _ _); simp -implicitDefEqProofs only [endA])); simp -dsimp -implicitDefEqProofs (maxSteps := 1000000) (disch := first | omega | (simp only [LN]; omega)) only [go_sem, Int.reduceToNat, Int.reducePow, Nat.reducePow, Int.reduceAdd, Int.reduceMul, Int.reduceSub, Int.reduceNeg, Nat.reduceAdd, Nat.reduceMul, Nat.reduceSub, Nat.reduceEqDiff, Nat.reduceLT, Nat.reduceLeDiff])
    | ((first | (with_reducible refine r_ret ?_) | (with_reducible refine pick_viewG default (by first | omega | (simp only [LN]; omega)) (by first | omega | (simp only [LN]; omega)) ?_) | (with_reducible refine pick_own default (by first | omega | (simp only [LN]; omega)) ?_) | (with_reducible refine And.intro (by first | decide | omega | assumption | (simp only [LN]; omega)) ?_) | ((with_reducible show pickE _ _ _); first | refine pickE_intro _ ⟨by omega, by rfl⟩ ?_ | refine pickE_intro _ (by rfl) ?_) | fail); try simp -dsimp -implicitDefEqProofs (maxSteps := 1000000) (disch := first | omega | (simp only [LN]; omega)) only [go_sem, Int.reduceToNat, Int.reducePow, Nat.reducePow, Int.reduceAdd, Int.reduceMul, Int.reduceSub, Int.reduceNeg, Nat.reduceAdd, Nat.reduceMul, Nat.reduceSub, Nat.reduceEqDiff, Nat.reduceLT, Nat.reduceLeDiff])
    | fail)
  all_goals (simp only [Int.tmod_eq_emod_of_nonneg h0.1, wr64] at *; unfold checkM)
  · rw [if_pos (by omega)]
  · rw [if_neg (by omega), if_pos (by omega)]
  · rw [if_neg (by omega), if_neg (by omega)]
set_option maxRecDepth 100000 in
set_option maxHeartbeats 4000000 in
theorem c24 (l : List UInt8) (o : Nat) (hl : l.length ≤ 9000000) (h64 : l.length % 64 = 0) (h0 : (o : Int) ≤ 18446744073709551615) : PCalls Tryd.prog 24 [eI l, .v (.int .u64 o)] (.tup [.v (.int .u64 (if checkM l o = 0 then wordU l o 8 else 0)), .v (.int .i64 (checkM l o))]) := by
  refine pcalls_of (E := E) (fn := Tryd.f24) 17 [.tmp 4, .tmp 5] rfl rfl rfl rfl (by decide) rfl ?_
  by_cases hc : checkM l o = 0
  · have hb := check_0 hc
    have e1 : IntKind.i64.wrap (o : Int) = (o : Int) := i64w (by omega) (by omega)
    repeat' (first
      | (with_reducible first | refine r_seq ?_ | refine r_block ?_ | refine fork_not ?_ | refine fork_and ?_ | refine fork_or ?_ | refine chk_ok (by kernel_rfl) ?_)
      | ((with_reducible first | refine fork_dec ?_ ?_ | refine fork_eq ?_ ?_ | refine fork_ne ?_ ?_ | refine fork_intro ?_ ?_) <;> intro h)
      | ((with_reducible show False); omega)
      | ((first | (with_reducible first | refine r_exit ?_ | refine r_skip ?_ | refine r_cond ?_ | refine r_region ?_ | show VX _ _ _ _ _ _ _ | show vstep _ _ _ _ _ | show vskip _ _ _ | show withV _ _) | ((with_reducible show endA _ _ _ _ _ _ _); simp -implicitDefEqProofs only [endA])); simp -dsimp -implicitDefEqProofs (maxSteps := 1000000) (disch := first | omega | (simp only [LN, e1, hc]; omega)) only [go_sem, Int.reduceToNat, Int.reducePow, Nat.reducePow, Int.reduceAdd, Int.reduceMul, Int.reduceSub, Int.reduceNeg, Nat.reduceAdd, Nat.reduceMul, Nat.reduceSub, Nat.reduceEqDiff, Nat.reduceLT, Nat.reduceLeDiff, e1, hc])
      | ((first | (with_reducible refine r_ret ?_) | (with_reducible refine pick_viewG default (by first | omega | (simp only [LN, e1, hc]; omega)) (by first | omega | (simp only [LN, e1, hc]; omega)) ?_) | (with_reducible refine pick_own default (by first | omega | (simp only [LN, e1, hc]; omega)) ?_) | (with_reducible refine And.intro (by first | decide | omega | assumption | (simp only [LN, e1, hc]; omega)) ?_) | ((with_reducible apply callK_pure); (first | exact c50 l o hl (by omega) | exact c51 l o hl (by omega) | fail)) | ((with_reducible apply callF_lend); (first | exact c50 l o hl (by omega) | exact c51 l o hl (by omega) | fail); rfl) | ((with_reducible apply callF_go); (first | exact c50 l o hl (by omega) | exact c51 l o hl (by omega) | fail)) | ((with_reducible show pickE _ _ _); first | refine pickE_intro _ ⟨by omega, by rfl⟩ ?_ | refine pickE_intro _ (by rfl) ?_) | fail); try simp -dsimp -implicitDefEqProofs (maxSteps := 1000000) (disch := first | omega | (simp only [LN, e1, hc]; omega)) only [go_sem, Int.reduceToNat, Int.reducePow, Nat.reducePow, Int.reduceAdd, Int.reduceMul, Int.reduceSub, Int.reduceNeg, Nat.reduceAdd, Nat.reduceMul, Nat.reduceSub, Nat.reduceEqDiff, Nat.reduceLT, Nat.reduceLeDiff, e1, hc])
      | fail)
    all_goals first | rfl | (simp [hc]; done) | trace_state
  · repeat' (first
      | (with_reducible first | refine r_seq ?_ | refine r_block ?_ | refine fork_not ?_ | refine fork_and ?_ | refine fork_or ?_ | refine chk_ok (by kernel_rfl) ?_)
      | ((with_reducible first | refine fork_dec ?_ ?_ | refine fork_eq ?_ ?_ | refine fork_ne ?_ ?_ | refine fork_intro ?_ ?_) <;> intro h)
      | ((with_reducible show False); omega)
      | ((first | (with_reducible first | refine r_exit ?_ | refine r_skip ?_ | refine r_cond ?_ | refine r_region ?_ | show VX _ _ _ _ _ _ _ | show vstep _ _ _ _ _ | show vskip _ _ _ | show withV _ _) | ((with_reducible show endA _ _ _ _ _ _ _); simp -implicitDefEqProofs only [endA])); simp -dsimp -implicitDefEqProofs (maxSteps := 1000000) (disch := first | omega | (simp only [LN, hc]; omega)) only [go_sem, Int.reduceToNat, Int.reducePow, Nat.reducePow, Int.reduceAdd, Int.reduceMul, Int.reduceSub, Int.reduceNeg, Nat.reduceAdd, Nat.reduceMul, Nat.reduceSub, Nat.reduceEqDiff, Nat.reduceLT, Nat.reduceLeDiff, hc])
      | ((first | (with_reducible refine r_ret ?_) | (with_reducible refine pick_viewG default (by first | omega | (simp only [LN, hc]; omega)) (by first | omega | (simp only [LN, hc]; omega)) ?_) | (with_reducible refine pick_own default (by first | omega | (simp only [LN, hc]; omega)) ?_) | (with_reducible refine And.intro (by first | decide | omega | assumption | (simp only [LN, hc]; omega)) ?_) | ((with_reducible apply callK_pure); (exact c50 l o hl (by omega))) | ((with_reducible apply callF_lend); (exact c50 l o hl (by omega)); rfl) | ((with_reducible apply callF_go); (exact c50 l o hl (by omega))) | ((with_reducible show pickE _ _ _); first | refine pickE_intro _ ⟨by omega, by rfl⟩ ?_ | refine pickE_intro _ (by rfl) ?_) | fail); try simp -dsimp -implicitDefEqProofs (maxSteps := 1000000) (disch := first | omega | (simp only [LN, hc]; omega)) only [go_sem, Int.reduceToNat, Int.reducePow, Nat.reducePow, Int.reduceAdd, Int.reduceMul, Int.reduceSub, Int.reduceNeg, Nat.reduceAdd, Nat.reduceMul, Nat.reduceSub, Nat.reduceEqDiff, Nat.reduceLT, Nat.reduceLeDiff, hc])
      | fail)
    all_goals first | rfl | (simp [hc]; done) | trace_state
/-- The word at o: its bytes from k on. -/
def wordD (l : List UInt8) (o : Nat) : Nat → Nat
  | 0 => 0
  | j + 1 => wordD l o j * 256 + byteM l o (7 - j)
theorem wordD_lt (l : List UInt8) (o : Nat) : ∀ j, wordD l o j < 256 ^ j
  | 0 => by simp [wordD]
  | j + 1 => by
    have h1 := wordD_lt l o j
    have h2 := byteM_lt l o (7 - j)
    rw [wordD, Nat.pow_succ]; omega
theorem wordD_8 (l : List UInt8) (o : Nat) : wordD l o 8 = wordU l o 8 := by
  simp only [wordD, wordU, Nat.reduceSub]
  omega
theorem wordD_0 (l : List UInt8) (o : Nat) : ((wordD l o 0 : Nat) : Int) = 0 := rfl
theorem wordD_step (l : List UInt8) (o j : Nat) (hj : j < 8) (h : ((wordD l o j : Nat) : Int) < 72057594037927936) : wordD l o j * 256 + byteM l o (7 - j) = wordD l o (j + 1) := rfl
theorem wordD_small (l : List UInt8) (o j : Nat) (hj : j < 8) : wordD l o j < 72057594037927936 := by
  have := wordD_lt l o j
  have h2 : (256 : Nat) ^ j ≤ 256 ^ 7 := Nat.pow_le_pow_right (by decide) (by omega)
  have h3 : (256 : Nat) ^ 7 = 72057594037927936 := by decide
  omega
theorem word_d (l : List UInt8) (o j : Nat) (hj : j < 8) : IntKind.u64.wrap (IntKind.u64.wrap ((wordD l o j : Int) * 256) + IntKind.u64.wrap (((l.getD ((o : Int) + (7 - (j : Int))).toNat default).toNat : Nat) : Int)) = ((wordD l o (j + 1) : Nat) : Int) := by
  have h1 := wordD_small l o j hj
  have h2 := byteM_lt l o (7 - j)
  rw [show ((o : Int) + (7 - (j : Int))).toNat = o + (7 - j) by omega]
  show IntKind.u64.wrap (IntKind.u64.wrap ((wordD l o j : Int) * 256) + IntKind.u64.wrap ((byteM l o (7 - j) : Nat) : Int)) = ((wordD l o j * 256 + byteM l o (7 - j) : Nat) : Int)
  simp only [wr64]
  omega
theorem put_step2 (l : List UInt8) (o k : Nat) (v : Int) (hk : k < 8) : ((putM l o v k).map eB).set (o + k) (PV.v (.int .u8 (IntKind.u8.wrap (v / 2 ^ (8 * (k : Int)).toNat)))) = (putM l o v (k + 1)).map eB := by
  rw [← put_step l o k v hk, shift8 k hk, show (8 * (k : Int)).toNat = 8 * k by omega]
theorem putM_get (l : List UInt8) (o : Nat) (v : Int) : ∀ n k, k < n → o + n ≤ l.length → (putM l o v n).getD (o + k) 0 = UInt8.ofNat (v / 256 ^ k % 256).toNat
  | n + 1, k, hk, h => by
    rw [putM, List.getD_eq_getElem?_getD, List.getElem?_set]
    by_cases e : o + n = o + k
    · rw [if_pos e, if_pos (by rw [putM_len]; omega), show k = n by omega]; rfl
    · rw [if_neg e, ← List.getD_eq_getElem?_getD, putM_get l o v n k (by omega) (by omega)]
theorem putM_byte (l : List UInt8) (o : Nat) (v : Int) (k : Nat) (hk : k < 8) (h : o + 8 ≤ l.length) : ((byteM (putM l o v 8) o k : Nat) : Int) = v / 256 ^ k % 256 := by
  unfold byteM
  rw [putM_get l o v 8 k hk h]
  have h0 : 0 ≤ v / 256 ^ k % 256 := Int.emod_nonneg _ (by decide)
  have h1 : v / 256 ^ k % 256 < 256 := Int.emod_lt_of_pos _ (by decide)
  generalize v / 256 ^ k % 256 = x at *
  simp; omega
theorem word_putM (l : List UInt8) (o : Nat) (v : Int) (h : o + 8 ≤ l.length) (hv : 0 ≤ v ∧ v ≤ 18446744073709551615) : ((wordU (putM l o v 8) o 8 : Nat) : Int) = v := by
  have b0 := putM_byte l o v 0 (by decide) h
  have b1 := putM_byte l o v 1 (by decide) h
  have b2 := putM_byte l o v 2 (by decide) h
  have b3 := putM_byte l o v 3 (by decide) h
  have b4 := putM_byte l o v 4 (by decide) h
  have b5 := putM_byte l o v 5 (by decide) h
  have b6 := putM_byte l o v 6 (by decide) h
  have b7 := putM_byte l o v 7 (by decide) h
  simp only [wordU]
  simp only [Int.reducePow] at b0 b1 b2 b3 b4 b5 b6 b7
  omega
theorem check_len {a b : List UInt8} (h : a.length = b.length) (o : Int) : checkM a o = checkM b o := by unfold checkM; rw [h]
attribute [local irreducible] wordU wordD
set_option maxRecDepth 100000 in
set_option maxHeartbeats 4000000 in
theorem c27 (l : List UInt8) (o : Nat) (hl : l.length ≤ 9000000) (ho : o + 8 ≤ l.length) : PCalls Tryd.prog 27 [.view 1 (l.map eB), .v (.int .u64 o)] (.v (.int .u64 (wordU l o 8))) := by
  refine pcalls_facts ⟨_, rfl, rfl, by decide⟩ fun hf => ?_
  simp only [go_sem, big] at hf
  refine pcalls_of (E := E) (fn := Tryd.f27) 23 [.tmp 4] rfl rfl rfl rfl (by decide) rfl ?_
  have e1 : IntKind.i64.wrap (o : Int) = (o : Int) := i64w (by omega) (by omega)
  repeat' (first
    | (with_reducible first | refine r_seq ?_ | refine r_block ?_ | refine fork_not ?_ | refine fork_and ?_ | refine fork_or ?_ | refine chk_ok (by kernel_rfl) ?_)
    | ((with_reducible first | refine fork_dec ?_ ?_ | refine fork_eq ?_ ?_ | refine fork_ne ?_ ?_ | refine fork_intro ?_ ?_) <;> intro h)
    | ((with_reducible show False); omega)
    | ((first | (with_reducible first | refine r_exit ?_ | refine r_skip ?_ | refine r_cond ?_ | refine r_region ?_ | show VX _ _ _ _ _ _ _ | show vstep _ _ _ _ _ | show vskip _ _ _ | show withV _ _) | ((with_reducible show endA _ _ _ _ _ _ _); simp -implicitDefEqProofs only [endA])); simp -dsimp -implicitDefEqProofs (maxSteps := 1000000) (disch := first | omega | (simp only [LN]; omega)) only [go_sem, Int.reduceToNat, Int.reducePow, Nat.reducePow, Int.reduceAdd, Int.reduceMul, Int.reduceSub, Int.reduceNeg, Nat.reduceAdd, Nat.reduceMul, Nat.reduceSub, Nat.reduceEqDiff, Nat.reduceLT, Nat.reduceLeDiff])
    | ((first | (with_reducible refine r_ret ?_) | (with_reducible refine pick_viewG default (by first | omega | (simp only [LN]; omega)) (by first | omega | (simp only [LN]; omega)) ?_) | (with_reducible refine pick_own default (by first | omega | (simp only [LN]; omega)) ?_) | (with_reducible refine And.intro (by first | decide | omega | assumption | (simp only [LN]; omega)) ?_) | ((with_reducible show pickE _ _ _); first | refine pickE_intro _ ⟨by omega, by rfl⟩ ?_ | refine pickE_intro _ (by rfl) ?_) | fail); try simp -dsimp -implicitDefEqProofs (maxSteps := 1000000) (disch := first | omega | (simp only [LN]; omega)) only [go_sem, Int.reduceToNat, Int.reducePow, Nat.reducePow, Int.reduceAdd, Int.reduceMul, Int.reduceSub, Int.reduceNeg, Nat.reduceAdd, Nat.reduceMul, Nat.reduceSub, Nat.reduceEqDiff, Nat.reduceLT, Nat.reduceLeDiff])
    | fail)
  refine r_loopA (α := Nat) [0, 1] (fun j b => [(5, .p (.v (.int .u64 (wordD l o j)))), (6, aI (7 - j))]) (fun j b => []) (fun j => []) (fun j => j ≤ 8) (fun j => 8 - j) (0) ?h0_1 ?hs0_1 ?I_1 ?hI_1 ?round_1
  case hI_1 => intro x; (simp -dsimp -implicitDefEqProofs (maxSteps := 1000000) (disch := first | omega | (simp only [LN]; omega)) only [go_sem, Int.reduceToNat, Int.reducePow, Nat.reducePow, Int.reduceAdd, Int.reduceMul, Int.reduceSub, Int.reduceNeg, Nat.reduceAdd, Nat.reduceMul, Nat.reduceSub, Nat.reduceEqDiff, Nat.reduceLT, Nat.reduceLeDiff]) <;> exact rfl
  case hs0_1 => refine wk_auto ?_; (simp -dsimp -implicitDefEqProofs (maxSteps := 1000000) (disch := first | omega | (simp only [LN, wordD_0]; omega)) only [go_sem, Int.reduceToNat, Int.reducePow, Nat.reducePow, Int.reduceAdd, Int.reduceMul, Int.reduceSub, Int.reduceNeg, Nat.reduceAdd, Nat.reduceMul, Nat.reduceSub, Nat.reduceEqDiff, Nat.reduceLT, Nat.reduceLeDiff, wordD_0]) <;> (try omega)
  case h0_1 => exact Nat.zero_le _
  case round_1 =>
    intro j hj
    repeat' (first
      | (with_reducible first | refine r_seq ?_ | refine r_block ?_ | refine fork_not ?_ | refine fork_and ?_ | refine fork_or ?_ | refine chk_ok (by kernel_rfl) ?_)
      | ((with_reducible first | refine fork_dec ?_ ?_ | refine fork_eq ?_ ?_ | refine fork_ne ?_ ?_ | refine fork_intro ?_ ?_) <;> intro h)
      | ((with_reducible show False); omega)
      | ((first | (with_reducible first | refine r_exit ?_ | refine r_skip ?_ | refine r_cond ?_ | refine r_region ?_ | show VX _ _ _ _ _ _ _ | show vstep _ _ _ _ _ | show vskip _ _ _ | show withV _ _) | ((with_reducible show endA _ _ _ _ _ _ _); simp -implicitDefEqProofs only [endA])); simp -dsimp -implicitDefEqProofs (maxSteps := 1000000) (disch := first | omega | (simp only [LN, e1]; omega)) only [go_sem, Int.reduceToNat, Int.reducePow, Nat.reducePow, Int.reduceAdd, Int.reduceMul, Int.reduceSub, Int.reduceNeg, Nat.reduceAdd, Nat.reduceMul, Nat.reduceSub, Nat.reduceEqDiff, Nat.reduceLT, Nat.reduceLeDiff, e1])
      | ((first | (with_reducible refine r_ret ?_) | (with_reducible refine pick_viewG default (by first | omega | (simp only [LN, e1]; omega)) (by first | omega | (simp only [LN, e1]; omega)) ?_) | (with_reducible refine pick_own default (by first | omega | (simp only [LN, e1]; omega)) ?_) | (with_reducible refine And.intro (by first | decide | omega | assumption | (simp only [LN, e1]; omega)) ?_) | ((with_reducible show pickE _ _ _); first | refine pickE_intro _ ⟨by omega, by rfl⟩ ?_ | refine pickE_intro _ (by rfl) ?_) | fail); try simp -dsimp -implicitDefEqProofs (maxSteps := 1000000) (disch := first | omega | (simp only [LN, e1]; omega)) only [go_sem, Int.reduceToNat, Int.reducePow, Nat.reducePow, Int.reduceAdd, Int.reduceMul, Int.reduceSub, Int.reduceNeg, Nat.reduceAdd, Nat.reduceMul, Nat.reduceSub, Nat.reduceEqDiff, Nat.reduceLT, Nat.reduceLeDiff, e1])
      | fail)
    · (refine loopQ_next (j + 1) ?_ ?_ ?_; (omega); (show _ < _; omega); (simp -dsimp -implicitDefEqProofs (maxSteps := 1000000) (disch := first | omega | (simp only [LN]; omega)) only [go_sem, Int.reduceToNat, Int.reducePow, Nat.reducePow, Int.reduceAdd, Int.reduceMul, Int.reduceSub, Int.reduceNeg, Nat.reduceAdd, Nat.reduceMul, Nat.reduceSub, Nat.reduceEqDiff, Nat.reduceLT, Nat.reduceLeDiff]; try trivial))
      all_goals (refine ⟨congrArg _ (word_d l o j (by omega)), by congr 1 <;> omega⟩)
    · rw [show j = 8 by omega, wordD_8]
set_option maxRecDepth 100000 in
set_option maxHeartbeats 4000000 in
theorem c28 (l : List UInt8) (o : Nat) (v : Int) (hl : l.length ≤ 9000000) (ho : o + 8 ≤ l.length) (hv : 0 ≤ v ∧ v ≤ 18446744073709551615) : PCalls Tryd.prog 28 [.view 1 (l.map eB), .v (.int .u64 o), .v (.int .u64 v)] (.view 1 ((putM l o v 8).map eB)) := by
  refine pcalls_facts ⟨_, rfl, rfl, by decide⟩ fun hf => ?_
  simp only [go_sem, big] at hf
  refine pcalls_of (E := E) (fn := Tryd.f28) 28 [.tmp 6] rfl rfl rfl rfl (by decide) rfl ?_
  have e1 : IntKind.i64.wrap (o : Int) = (o : Int) := i64w (by omega) (by omega)
  repeat' (first
    | (with_reducible first | refine r_seq ?_ | refine r_block ?_ | refine fork_not ?_ | refine fork_and ?_ | refine fork_or ?_ | refine chk_ok (by kernel_rfl) ?_)
    | ((with_reducible first | refine fork_dec ?_ ?_ | refine fork_eq ?_ ?_ | refine fork_ne ?_ ?_ | refine fork_intro ?_ ?_) <;> intro h)
    | ((with_reducible show False); omega)
    | ((first | (with_reducible first | refine r_exit ?_ | refine r_skip ?_ | refine r_cond ?_ | refine r_region ?_ | show VX _ _ _ _ _ _ _ | show vstep _ _ _ _ _ | show vskip _ _ _ | show withV _ _) | ((with_reducible show endA _ _ _ _ _ _ _); simp -implicitDefEqProofs only [endA])); simp -dsimp -implicitDefEqProofs (maxSteps := 1000000) (disch := first | omega | (simp only [LN]; omega)) only [go_sem, Int.reduceToNat, Int.reducePow, Nat.reducePow, Int.reduceAdd, Int.reduceMul, Int.reduceSub, Int.reduceNeg, Nat.reduceAdd, Nat.reduceMul, Nat.reduceSub, Nat.reduceEqDiff, Nat.reduceLT, Nat.reduceLeDiff])
    | ((first | (with_reducible refine r_ret ?_) | (with_reducible refine pick_viewG default (by first | omega | (simp only [LN]; omega)) (by first | omega | (simp only [LN]; omega)) ?_) | (with_reducible refine pick_own default (by first | omega | (simp only [LN]; omega)) ?_) | (with_reducible refine And.intro (by first | decide | omega | assumption | (simp only [LN]; omega)) ?_) | ((with_reducible show pickE _ _ _); first | refine pickE_intro _ ⟨by omega, by rfl⟩ ?_ | refine pickE_intro _ (by rfl) ?_) | fail); try simp -dsimp -implicitDefEqProofs (maxSteps := 1000000) (disch := first | omega | (simp only [LN]; omega)) only [go_sem, Int.reduceToNat, Int.reducePow, Nat.reducePow, Int.reduceAdd, Int.reduceMul, Int.reduceSub, Int.reduceNeg, Nat.reduceAdd, Nat.reduceMul, Nat.reduceSub, Nat.reduceEqDiff, Nat.reduceLT, Nat.reduceLeDiff])
    | fail)
  refine r_loopA (α := Nat) [1, 2, 7] (fun k b => [(8, aI k)]) (fun k b => [(7, .arr 1 ((putM l o v k).map eB))]) (fun k => []) (fun k => k ≤ 8) (fun k => 8 - k) (0) ?h0_2 ?hs0_2 ?I_2 ?hI_2 ?round_2
  case hI_2 => intro x; (simp -dsimp -implicitDefEqProofs (maxSteps := 1000000) (disch := first | omega | (simp only [LN]; omega)) only [go_sem, Int.reduceToNat, Int.reducePow, Nat.reducePow, Int.reduceAdd, Int.reduceMul, Int.reduceSub, Int.reduceNeg, Nat.reduceAdd, Nat.reduceMul, Nat.reduceSub, Nat.reduceEqDiff, Nat.reduceLT, Nat.reduceLeDiff]) <;> exact rfl
  case hs0_2 => refine wk_auto ?_; (simp -dsimp -implicitDefEqProofs (maxSteps := 1000000) (disch := first | omega | (simp only [LN]; omega)) only [go_sem, Int.reduceToNat, Int.reducePow, Nat.reducePow, Int.reduceAdd, Int.reduceMul, Int.reduceSub, Int.reduceNeg, Nat.reduceAdd, Nat.reduceMul, Nat.reduceSub, Nat.reduceEqDiff, Nat.reduceLT, Nat.reduceLeDiff]) <;> (try omega)
  case h0_2 => exact Nat.zero_le _
  case round_2 =>
    rintro k h1
    repeat' (first
      | (with_reducible first | refine r_seq ?_ | refine r_block ?_ | refine fork_not ?_ | refine fork_and ?_ | refine fork_or ?_ | refine chk_ok (by kernel_rfl) ?_)
      | ((with_reducible first | refine fork_dec ?_ ?_ | refine fork_eq ?_ ?_ | refine fork_ne ?_ ?_ | refine fork_intro ?_ ?_) <;> intro h)
      | ((with_reducible show False); omega)
      | ((first | (with_reducible first | refine r_exit ?_ | refine r_skip ?_ | refine r_cond ?_ | refine r_region ?_ | show VX _ _ _ _ _ _ _ | show vstep _ _ _ _ _ | show vskip _ _ _ | show withV _ _) | ((with_reducible show endA _ _ _ _ _ _ _); simp -implicitDefEqProofs only [endA])); simp -dsimp -implicitDefEqProofs (maxSteps := 1000000) (disch := first | omega | (simp only [LN, putM_len, e1]; omega)) only [go_sem, Int.reduceToNat, Int.reducePow, Nat.reducePow, Int.reduceAdd, Int.reduceMul, Int.reduceSub, Int.reduceNeg, Nat.reduceAdd, Nat.reduceMul, Nat.reduceSub, Nat.reduceEqDiff, Nat.reduceLT, Nat.reduceLeDiff, putM_len, e1])
      | ((first | (with_reducible refine r_ret ?_) | (with_reducible refine pick_viewG default (by first | omega | (simp only [LN, putM_len, e1]; omega)) (by first | omega | (simp only [LN, putM_len, e1]; omega)) ?_) | (with_reducible refine pick_own default (by first | omega | (simp only [LN, putM_len, e1]; omega)) ?_) | (with_reducible refine And.intro (by first | decide | omega | assumption | (simp only [LN, putM_len, e1]; omega)) ?_) | ((with_reducible show pickE _ _ _); first | refine pickE_intro _ ⟨by omega, by rfl⟩ ?_ | refine pickE_intro _ (by rfl) ?_) | fail); try simp -dsimp -implicitDefEqProofs (maxSteps := 1000000) (disch := first | omega | (simp only [LN, putM_len, e1]; omega)) only [go_sem, Int.reduceToNat, Int.reducePow, Nat.reducePow, Int.reduceAdd, Int.reduceMul, Int.reduceSub, Int.reduceNeg, Nat.reduceAdd, Nat.reduceMul, Nat.reduceSub, Nat.reduceEqDiff, Nat.reduceLT, Nat.reduceLeDiff, putM_len, e1])
      | fail)
    · ((refine loopQ_next (k + 1) ?_ ?_ ?_; (omega); (show _ < _; omega); (simp -dsimp -implicitDefEqProofs (maxSteps := 1000000) (disch := first | omega | (simp only [LN]; omega)) only [go_sem, Int.reduceToNat, Int.reducePow, Nat.reducePow, Int.reduceAdd, Int.reduceMul, Int.reduceSub, Int.reduceNeg, Nat.reduceAdd, Nat.reduceMul, Nat.reduceSub, Nat.reduceEqDiff, Nat.reduceLT, Nat.reduceLeDiff, put_step2 l o k v (by omega)]; try trivial)))
    · rw [show k = 8 by omega]
theorem whole_len9 (p : List UInt8) : (wholeM p).length ≤ 2560 ∧ (wholeM p).length % 64 = 0 := by
  unfold wholeM; rw [List.length_take]; omega
attribute [local irreducible] newM newE wholeM withM checkM putM
set_option maxRecDepth 100000 in
set_option maxHeartbeats 4000000 in
theorem c6 (p : List UInt8) (off v : Int) (h0 : 0 ≤ off ∧ off ≤ 18446744073709551615) (hv : 0 ≤ v ∧ v ≤ 18446744073709551615) : PCalls Tryd.prog 6 [.view 1 (p.map eB), .v (.int .u64 off), .v (.int .u64 v)] (.v (.bool true)) := by
  refine pcalls_facts ⟨_, rfl, rfl, by decide⟩ fun hf => ?_
  simp only [go_sem, big] at hf
  refine pcalls_of (E := E) (fn := Tryd.f6) 108 [.tmp 6] rfl rfl rfl rfl (by decide) rfl ?_
  obtain ⟨o, rfl⟩ := Int.eq_ofNat_of_zero_le h0.1
  have k18 := c18 p
  have hw := whole_len9 p
  generalize hq : wholeM p = l at *
  have e1 := new_ok hw.2 (by omega)
  have e2 := newE_ok hw.2 (by omega)
  have k24 := c24 l o (by omega) hw.2 (by omega)
  have k25 := c25 l o v (by omega) hw.2 h0 hv
  have k26 := c26 l o (by omega) h0
  by_cases hc : checkM l o = 0
  · have hb := check_0 hc
    have e3 : withM l o v = putM l o v 8 := by rw [withM, if_pos hc]; rfl
    have e4 : checkM (putM l o v 8) o = 0 := by rw [check_len (putM_len l o v 8) o, hc]
    have hl := putM_len l o v 8
    have k24' := c24 (putM l o v 8) o (by omega) (by omega) (by omega)
    have e5 := word_putM l o v (by omega) hv
    rw [if_pos hc, hc] at k24
    rw [if_pos e4, e4, e5] at k24'
    rw [e3, hc] at k25
    rw [hc] at k26
    have k27 := c27 l o (by omega) (by omega)
    have k28 := c28 l o v (by omega) (by omega) hv
    repeat' (first
      | (with_reducible first | refine r_seq ?_ | refine r_block ?_ | refine fork_not ?_ | refine fork_and ?_ | refine fork_or ?_ | refine chk_ok (by kernel_rfl) ?_)
      | ((with_reducible first | refine fork_dec ?_ ?_ | refine fork_eq ?_ ?_ | refine fork_ne ?_ ?_ | refine fork_intro ?_ ?_) <;> intro h <;> try (exfalso; first | omega | exact h rfl | (revert h; decide) | (cases h; done)))
      | ((with_reducible show False); omega)
      | ((first | (with_reducible first | refine r_exit ?_ | refine r_skip ?_ | refine r_cond ?_ | refine r_region ?_ | show VX _ _ _ _ _ _ _ | show vstep _ _ _ _ _ | show vskip _ _ _ | show withV _ _) | ((with_reducible show endA _ _ _ _ _ _ _); simp -implicitDefEqProofs only [endA])); simp -dsimp -implicitDefEqProofs (maxSteps := 1000000) (disch := first | omega | (simp only [LN, e1, e2, decide_true]; omega)) only [go_sem, Int.reduceToNat, Int.reducePow, Nat.reducePow, Int.reduceAdd, Int.reduceMul, Int.reduceSub, Int.reduceNeg, Nat.reduceAdd, Nat.reduceMul, Nat.reduceSub, Nat.reduceEqDiff, Nat.reduceLT, Nat.reduceLeDiff, e1, e2, decide_true])
      | ((first | (with_reducible refine r_ret ?_) | (with_reducible refine pick_viewG default (by first | omega | (simp only [LN, e1, e2, decide_true]; omega)) (by first | omega | (simp only [LN, e1, e2, decide_true]; omega)) ?_) | (with_reducible refine pick_own default (by first | omega | (simp only [LN, e1, e2, decide_true]; omega)) ?_) | (with_reducible refine And.intro (by first | decide | omega | assumption | (simp only [LN, e1, e2, decide_true]; omega)) ?_) | ((with_reducible apply callK_to); exact c16 l l (by omega); (focus (simp -dsimp -implicitDefEqProofs (maxSteps := 1000000) (disch := first | omega | (simp only [LN, e1, e2, decide_true]; omega)) only [go_sem, Int.reduceToNat, Int.reducePow, Nat.reducePow, Int.reduceAdd, Int.reduceMul, Int.reduceSub, Int.reduceNeg, Nat.reduceAdd, Nat.reduceMul, Nat.reduceSub, Nat.reduceEqDiff, Nat.reduceLT, Nat.reduceLeDiff, e1, e2, decide_true]; done))) | ((with_reducible apply callK_to); exact c16 (putM l o v 8) (putM l o v 8) (by omega); (focus (simp -dsimp -implicitDefEqProofs (maxSteps := 1000000) (disch := first | omega | (simp only [LN, e1, e2, decide_true]; omega)) only [go_sem, Int.reduceToNat, Int.reducePow, Nat.reducePow, Int.reduceAdd, Int.reduceMul, Int.reduceSub, Int.reduceNeg, Nat.reduceAdd, Nat.reduceMul, Nat.reduceSub, Nat.reduceEqDiff, Nat.reduceLT, Nat.reduceLeDiff, e1, e2, decide_true]; done))) | ((with_reducible apply callK_pure); (first | exact c13 | exact k18 | exact c14 l | exact k24 | exact k25 | exact k26 | exact k24' | exact k27 | exact k28 | fail)) | ((with_reducible apply callF_lend); (first | exact c13 | exact k18 | exact c14 l | exact k24 | exact k25 | exact k26 | exact k24' | exact k27 | exact k28 | fail); rfl) | ((with_reducible apply callF_go); (first | exact c13 | exact k18 | exact c14 l | exact k24 | exact k25 | exact k26 | exact k24' | exact k27 | exact k28 | fail)) | ((with_reducible show pickE _ _ _); first | refine pickE_intro _ ⟨by omega, by rfl⟩ ?_ | refine pickE_intro _ (by rfl) ?_) | fail); try simp -dsimp -implicitDefEqProofs (maxSteps := 1000000) (disch := first | omega | (simp only [LN, e1, e2, decide_true]; omega)) only [go_sem, Int.reduceToNat, Int.reducePow, Nat.reducePow, Int.reduceAdd, Int.reduceMul, Int.reduceSub, Int.reduceNeg, Nat.reduceAdd, Nat.reduceMul, Nat.reduceSub, Nat.reduceEqDiff, Nat.reduceLT, Nat.reduceLeDiff, e1, e2, decide_true])
      | fail)
    all_goals first | rfl | trace_state
  · have e3 : withM l o v = [] := by rw [withM, if_neg hc]
    rw [if_neg hc] at k24
    rw [e3] at k25
    have hcr : checkM l o = 1 ∨ checkM l o = 2 := by
      rw [checkM] at hc ⊢
      split at hc
      · exact .inl (if_pos (by assumption))
      · split at hc
        · rw [if_neg (by assumption), if_pos (by assumption)]; exact .inr rfl
        · exact absurd rfl hc
    generalize hz : checkM l o = z at *
    repeat' (first
      | (with_reducible first | refine r_seq ?_ | refine r_block ?_ | refine fork_not ?_ | refine fork_and ?_ | refine fork_or ?_ | refine chk_ok (by kernel_rfl) ?_)
      | ((with_reducible first | refine fork_dec ?_ ?_ | refine fork_eq ?_ ?_ | refine fork_ne ?_ ?_ | refine fork_intro ?_ ?_) <;> intro h <;> try (exfalso; first | omega | exact h rfl | (revert h; decide) | (cases h; done)))
      | ((with_reducible show False); omega)
      | ((first | (with_reducible first | refine r_exit ?_ | refine r_skip ?_ | refine r_cond ?_ | refine r_region ?_ | show VX _ _ _ _ _ _ _ | show vstep _ _ _ _ _ | show vskip _ _ _ | show withV _ _) | ((with_reducible show endA _ _ _ _ _ _ _); simp -implicitDefEqProofs only [endA])); simp -dsimp -implicitDefEqProofs (maxSteps := 1000000) (disch := first | omega | (simp only [LN, e1, e2, hc, decide_true]; omega)) only [go_sem, Int.reduceToNat, Int.reducePow, Nat.reducePow, Int.reduceAdd, Int.reduceMul, Int.reduceSub, Int.reduceNeg, Nat.reduceAdd, Nat.reduceMul, Nat.reduceSub, Nat.reduceEqDiff, Nat.reduceLT, Nat.reduceLeDiff, e1, e2, hc, decide_true])
      | ((first | (with_reducible refine r_ret ?_) | (with_reducible refine pick_viewG default (by first | omega | (simp only [LN, e1, e2, hc, decide_true]; omega)) (by first | omega | (simp only [LN, e1, e2, hc, decide_true]; omega)) ?_) | (with_reducible refine pick_own default (by first | omega | (simp only [LN, e1, e2, hc, decide_true]; omega)) ?_) | (with_reducible refine And.intro (by first | decide | omega | assumption | (simp only [LN, e1, e2, hc, decide_true]; omega)) ?_) | ((with_reducible apply callK_to); exact c16 l l (by omega); (focus (simp -dsimp -implicitDefEqProofs (maxSteps := 1000000) (disch := first | omega | (simp only [LN, e1, e2, hc, decide_true]; omega)) only [go_sem, Int.reduceToNat, Int.reducePow, Nat.reducePow, Int.reduceAdd, Int.reduceMul, Int.reduceSub, Int.reduceNeg, Nat.reduceAdd, Nat.reduceMul, Nat.reduceSub, Nat.reduceEqDiff, Nat.reduceLT, Nat.reduceLeDiff, e1, e2, hc, decide_true]; done))) | ((with_reducible apply callK_pure); (first | exact c13 | exact k18 | exact c14 l | exact k24 | exact k25 | exact k26 | exact c15 [] (by decide) | fail)) | ((with_reducible apply callF_lend); (first | exact c13 | exact k18 | exact c14 l | exact k24 | exact k25 | exact k26 | exact c15 [] (by decide) | fail); rfl) | ((with_reducible apply callF_go); (first | exact c13 | exact k18 | exact c14 l | exact k24 | exact k25 | exact k26 | exact c15 [] (by decide) | fail)) | ((with_reducible show pickE _ _ _); first | refine pickE_intro _ ⟨by omega, by rfl⟩ ?_ | refine pickE_intro _ (by rfl) ?_) | fail); try simp -dsimp -implicitDefEqProofs (maxSteps := 1000000) (disch := first | omega | (simp only [LN, e1, e2, hc, decide_true]; omega)) only [go_sem, Int.reduceToNat, Int.reducePow, Nat.reducePow, Int.reduceAdd, Int.reduceMul, Int.reduceSub, Int.reduceNeg, Nat.reduceAdd, Nat.reduceMul, Nat.reduceSub, Nat.reduceEqDiff, Nat.reduceLT, Nat.reduceLeDiff, e1, e2, hc, decide_true])
      | fail)
    all_goals first | rfl | trace_state
end Go.Proofs.YtcnbngflehiphaaDoor
