/- Contracts of functions of this program, and the plain facts that they rest on. No conditions. -/
import Derived.Test.YtlkffmmgcoiniaaDoorD13
set_option linter.unusedSimpArgs false
set_option linter.unusedVariables false
namespace Go.Proofs.YtlkffmmgcoiniaaDoor
open Go Go.Ab
attribute [local irreducible] callK callF loopQ vstep vskip pickE hideP
set_option maxRecDepth 100000
/-! Bits of words. -/
def getB (v s w : Nat) : Nat := v / 2 ^ s % 2 ^ w
def mskN (w : Nat) : Nat := 2 ^ w - 1
def setB (v s w x : Nat) : Nat := ((BitVec.ofNat 64 v &&& ~~~(BitVec.ofNat 64 (mskN w * 2 ^ s))) ||| BitVec.ofNat 64 (x % 2 ^ w * 2 ^ s)).toNat
theorem getB_bit (v s w j : Nat) : (getB v s w).testBit j = (decide (j < w) && v.testBit (s + j)) := by
  unfold getB
  rw [Nat.testBit_mod_two_pow, Nat.testBit_div_two_pow, Nat.add_comm]
theorem getB_lt (v s w : Nat) : getB v s w < 2 ^ w := Nat.mod_lt _ (Nat.two_pow_pos w)
theorem setB_lt (v s w x : Nat) : setB v s w x < 2 ^ 64 := by unfold setB; exact BitVec.isLt _
theorem setB_bit {v s w x : Nat} (hs : s + w ≤ 64) (j : Nat) (hj : j < 64) : (setB v s w x).testBit j = if s ≤ j ∧ j < s + w then x.testBit (j - s) else v.testBit j := by
  unfold setB mskN
  have h1 : (x % 2 ^ w * 2 ^ s).testBit j = (decide (s ≤ j) && (decide (j - s < w) && x.testBit (j - s))) := by
    rw [Nat.testBit_mul_two_pow, Nat.testBit_mod_two_pow]
  have h2 : ((2 ^ w - 1) * 2 ^ s).testBit j = (decide (s ≤ j) && decide (j - s < w)) := by
    rw [Nat.testBit_mul_two_pow, Nat.testBit_two_pow_sub_one]
  rw [BitVec.testBit_toNat, BitVec.getLsbD_or, BitVec.getLsbD_and, BitVec.getLsbD_not, BitVec.getLsbD_ofNat, BitVec.getLsbD_ofNat, BitVec.getLsbD_ofNat, h1, h2]
  simp only [hj, decide_true, Bool.true_and]
  by_cases hc : s ≤ j ∧ j < s + w
  · rw [if_pos hc, decide_eq_true hc.1, decide_eq_true (show j - s < w by omega)]
    simp
  · rw [if_neg hc]
    by_cases h3 : s ≤ j
    · rw [decide_eq_true h3, decide_eq_false (show ¬ j - s < w by omega)]; simp
    · rw [decide_eq_false h3]; simp
theorem get_set_same {v s w x : Nat} (hs : s + w ≤ 64) (hx : x < 2 ^ w) : getB (setB v s w x) s w = x := by
  apply Nat.eq_of_testBit_eq
  intro j
  rw [getB_bit]
  by_cases hj : j < w
  · rw [setB_bit hs (s + j) (by omega), if_pos (by omega), decide_eq_true hj, Nat.add_sub_cancel_left]; rfl
  · rw [decide_eq_false hj, Bool.false_and, Nat.testBit_lt_two_pow (Nat.lt_of_lt_of_le hx (Nat.pow_le_pow_right (by decide) (by omega)))]
theorem get_set_other {v s w x s' w' : Nat} (hs : s + w ≤ 64) (hs' : s' + w' ≤ 64) (hd : s + w ≤ s' ∨ s' + w' ≤ s) : getB (setB v s w x) s' w' = getB v s' w' := by
  apply Nat.eq_of_testBit_eq
  intro j
  rw [getB_bit, getB_bit]
  by_cases hj : j < w'
  · rw [setB_bit hs (s' + j) (by omega), if_neg (by omega)]
  · rw [decide_eq_false hj]; rfl
def eW (n : Nat) : PV := .v (.int .u64 n)
attribute [local go_sem] eF rF eS eP eX rX eQ eL eN eW
theorem wrapN {n : Nat} (h : n < 18446744073709551616) : IntKind.u64.wrap (n : Int) = n := by rw [wr64]; omega
theorem ofIntN (n : Nat) : BitVec.ofInt 64 (n : Int) = BitVec.ofNat 64 n := BitVec.ofInt_natCast 64 n
theorem minN {s : Nat} (h : s ≤ 64) : min (IntKind.u64.wrap (s : Int)).toNat 64 = s := by rw [wrapN (by omega), Int.toNat_natCast]; omega
theorem divN (v s : Nat) : (v : Int) / 2 ^ s = ((v / 2 ^ s : Nat) : Int) := by push_cast; rfl
theorem mskN_lt {w : Nat} (h : w ≤ 64) : mskN w < 18446744073709551616 := by
  unfold mskN
  have := Nat.pow_le_pow_right (show 0 < 2 by decide) h
  have h2 : (2 : Nat) ^ 64 = 18446744073709551616 := by decide
  have := Nat.two_pow_pos w
  omega
theorem andM {a w : Nat} (ha : a < 18446744073709551616) (hw : w ≤ 64) : (BitVec.ofNat 64 a &&& BitVec.ofNat 64 (mskN w)).toNat = a % 2 ^ w := by
  rw [BitVec.toNat_and, BitVec.toNat_ofNat, BitVec.toNat_ofNat, Nat.mod_eq_of_lt (by exact ha), Nat.mod_eq_of_lt (by exact mskN_lt hw)]
  unfold mskN
  exact Nat.and_two_pow_sub_one_eq_mod a w
theorem fieldE64 {v s w : Nat} (hv : v < 18446744073709551616) (hs : s ≤ 64) (hw : w ≤ 64) :
    IntKind.u64.wrap ((BitVec.ofInt 64 ((v : Int) / 2 ^ min (IntKind.u64.wrap (s : Int)).toNat 64) &&& BitVec.ofInt 64 ((mskN w : Nat) : Int)).toNat : Int) = (getB v s w : Int) := by
  have hd : v / 2 ^ s < 18446744073709551616 := Nat.lt_of_le_of_lt (Nat.div_le_self _ _) hv
  rw [minN hs, divN, ofIntN, ofIntN]
  have := andM (a := v / 2 ^ s) hd hw
  rw [show (BitVec.ofNat 64 (v / 2 ^ s) &&& BitVec.ofNat 64 (mskN w)).toNat = v / 2 ^ s % 2 ^ w from this]
  exact wrapN (Nat.lt_of_le_of_lt (Nat.mod_le _ _) hd)
theorem fieldE {v s w : Nat} (hv : v < 18446744073709551616) (hs : s ≤ 64) (hw : w ≤ 64) :
    IntKind.u64.wrap ((BitVec.ofInt IntKind.u64.bits ((v : Int) / 2 ^ min (IntKind.u64.wrap (s : Int)).toNat 64) &&& BitVec.ofInt IntKind.u64.bits ((mskN w : Nat) : Int)).toNat : Int) = (getB v s w : Int) := fieldE64 hv hs hw
theorem mul_lt {a s w : Nat} (ha : a < 2 ^ w) (hs : s + w ≤ 64) : a * 2 ^ s < 18446744073709551616 := by
  have h1 : a * 2 ^ s < 2 ^ w * 2 ^ s := Nat.mul_lt_mul_of_pos_right ha (Nat.two_pow_pos s)
  rw [← Nat.pow_add] at h1
  have h2 := Nat.pow_le_pow_right (show 0 < 2 by decide) (show w + s ≤ 64 by omega)
  have h3 : (2 : Nat) ^ 64 = 18446744073709551616 := by decide
  omega
theorem mulN (a s : Nat) : (a : Int) * 2 ^ s = ((a * 2 ^ s : Nat) : Int) := by push_cast; rfl
theorem mskN_2 (w : Nat) : mskN w < 2 ^ w := by unfold mskN; have := Nat.two_pow_pos w; omega
theorem bvN (b : BitVec 64) : BitVec.ofNat 64 b.toNat = b := by simp
theorem setE64 {v s w y : Nat} (hs : s + w ≤ 64) (hw : w ≤ 64) (hy : y < 2 ^ w) :
    IntKind.u64.wrap ((BitVec.ofInt 64 (IntKind.u64.wrap ((BitVec.ofInt 64 ((v : Nat) : Int) &&& ~~~BitVec.ofInt 64 (IntKind.u64.wrap (((mskN w : Nat) : Int) * 2 ^ min (IntKind.u64.wrap (s : Int)).toNat 64))).toNat : Int)) |||
      BitVec.ofInt 64 (IntKind.u64.wrap ((y : Int) * 2 ^ min (IntKind.u64.wrap (s : Int)).toNat 64))).toNat : Int) = (setB v s w y : Int) := by
  rw [minN (by omega), mulN, mulN, wrapN (mul_lt (mskN_2 w) hs), wrapN (mul_lt hy hs), ofIntN, ofIntN, ofIntN]
  have e1 : IntKind.u64.wrap ((BitVec.ofNat 64 v &&& ~~~BitVec.ofNat 64 (mskN w * 2 ^ s)).toNat : Int) = ((BitVec.ofNat 64 v &&& ~~~BitVec.ofNat 64 (mskN w * 2 ^ s)).toNat : Int) := wrapN (BitVec.isLt _)
  rw [show IntKind.u64.wrap _ = _ from e1, ofIntN, bvN]
  unfold setB
  rw [Nat.mod_eq_of_lt hy]
  exact wrapN (BitVec.isLt _)
theorem setE {v s w y : Nat} (hs : s + w ≤ 64) (hw : w ≤ 64) (hy : y < 2 ^ w) :
    IntKind.u64.wrap ((BitVec.ofInt IntKind.u64.bits (IntKind.u64.wrap ((BitVec.ofInt IntKind.u64.bits ((v : Nat) : Int) &&& ~~~BitVec.ofInt IntKind.u64.bits (IntKind.u64.wrap (((mskN w : Nat) : Int) * 2 ^ min (IntKind.u64.wrap (s : Int)).toNat 64))).toNat : Int)) |||
      BitVec.ofInt IntKind.u64.bits (IntKind.u64.wrap ((y : Int) * 2 ^ min (IntKind.u64.wrap (s : Int)).toNat 64))).toNat : Int) = (setB v s w y : Int) := setE64 hs hw hy
theorem setB_mod (v s w x : Nat) : setB v s w (x % 2 ^ w) = setB v s w x := by unfold setB; rw [Nat.mod_mod]
theorem andE64 {x w : Nat} (hx : x < 18446744073709551616) (hw : w ≤ 64) :
    IntKind.u64.wrap ((BitVec.ofInt 64 (x : Int) &&& BitVec.ofInt 64 ((mskN w : Nat) : Int)).toNat : Int) = ((x % 2 ^ w : Nat) : Int) := by
  rw [ofIntN, ofIntN]
  rw [show (BitVec.ofNat 64 x &&& BitVec.ofNat 64 (mskN w)).toNat = x % 2 ^ w from andM hx hw]
  exact wrapN (Nat.lt_of_le_of_lt (Nat.mod_le _ _) hx)
theorem andE {x w : Nat} (hx : x < 18446744073709551616) (hw : w ≤ 64) :
    IntKind.u64.wrap ((BitVec.ofInt IntKind.u64.bits (x : Int) &&& BitVec.ofInt IntKind.u64.bits ((mskN w : Nat) : Int)).toNat : Int) = ((x % 2 ^ w : Nat) : Int) := andE64 hx hw
theorem wok_1 {w : Nat} (h : WOk w) : 1 ≤ w ∧ w ≤ 64 := by rcases h with rfl | rfl | rfl | rfl | rfl <;> omega
set_option maxRecDepth 100000 in
set_option maxHeartbeats 4000000 in
theorem c58 (s w : Nat) (h1 : 1 ≤ w) (h2 : s + w ≤ 64) : PCalls Tryd.prog 58 [.v (.int .i64 s), .v (.int .i64 w)] (.v (.bool true)) := by
  refine pcalls_of (E := E) (fn := Tryd.f58) 21 [.tmp 4] rfl rfl rfl rfl (by decide) rfl ?_
  repeat' (first
    | (with_reducible first | refine r_seq ?_ | refine r_block ?_ | refine fork_not ?_ | refine fork_and ?_ | refine fork_or ?_ | refine chk_ok (by kernel_rfl) ?_)
    | ((with_reducible first | refine fork_dec ?_ ?_ | refine fork_eq ?_ ?_ | refine fork_ne ?_ ?_ | refine fork_intro ?_ ?_) <;> intro h <;> try (exfalso; first | omega | exact h rfl | (revert h; decide) | (cases h; done)))
    | ((with_reducible show False); omega)
    | ((first | (with_reducible first | refine r_exit ?_ | refine r_skip ?_ | refine r_cond ?_ | refine r_region ?_ | show VX _ _ _ _ _ _ _ | show vstep _ _ _ _ _ | show vskip _ _ _ | show withV _ _) | ((with_reducible show endA _ _ _ _ _ _ _); simp -implicitDefEqProofs only [endA])); simp -dsimp -implicitDefEqProofs (maxSteps := 1000000) (disch := first | omega | (simp only [LN]; omega)) only [go_sem, Int.reduceToNat, Int.reducePow, Nat.reducePow, Int.reduceAdd, Int.reduceMul, Int.reduceSub, Int.reduceNeg, Nat.reduceAdd, Nat.reduceMul, Nat.reduceSub, Nat.reduceEqDiff, Nat.reduceLT, Nat.reduceLeDiff])
    | ((first | (with_reducible refine r_ret ?_) | (with_reducible refine pick_viewG default (by first | omega | (simp only [LN]; omega)) (by first | omega | (simp only [LN]; omega)) ?_) | (with_reducible refine pick_own default (by first | omega | (simp only [LN]; omega)) ?_) | (with_reducible refine And.intro (by first | decide | omega | assumption | (simp only [LN]; omega)) ?_) | ((with_reducible show pickE _ _ _); first | refine pickE_intro _ ⟨by omega, by rfl⟩ ?_ | refine pickE_intro _ (by rfl) ?_) | fail); try simp -dsimp -implicitDefEqProofs (maxSteps := 1000000) (disch := first | omega | (simp only [LN]; omega)) only [go_sem, Int.reduceToNat, Int.reducePow, Nat.reducePow, Int.reduceAdd, Int.reduceMul, Int.reduceSub, Int.reduceNeg, Nat.reduceAdd, Nat.reduceMul, Nat.reduceSub, Nat.reduceEqDiff, Nat.reduceLT, Nat.reduceLeDiff])
    | fail)
  all_goals first | rfl | omega | (rw [decide_eq_true (by omega)]) | trace_state
set_option maxRecDepth 100000 in
set_option maxHeartbeats 4000000 in
theorem c59 (w : Nat) (hw : WOk w) : PCalls Tryd.prog 59 [.v (.int .i64 w)] (.v (.int .u64 (mskN w))) := by
  refine pcalls_of (E := E) (fn := Tryd.f59) 7 [.tmp 2] rfl rfl rfl rfl (by decide) rfl ?_
  rcases hw with rfl | rfl | rfl | rfl | rfl
  all_goals
    repeat' (first
      | (with_reducible first | refine r_seq ?_ | refine r_block ?_ | refine fork_not ?_ | refine fork_and ?_ | refine fork_or ?_ | refine chk_ok (by kernel_rfl) ?_)
      | ((with_reducible first | refine fork_dec ?_ ?_ | refine fork_eq ?_ ?_ | refine fork_ne ?_ ?_ | refine fork_intro ?_ ?_) <;> intro h <;> try (exfalso; first | omega | exact h rfl | (revert h; decide) | (cases h; done)))
      | ((with_reducible show False); omega)
      | ((first | (with_reducible first | refine r_exit ?_ | refine r_skip ?_ | refine r_cond ?_ | refine r_region ?_ | show VX _ _ _ _ _ _ _ | show vstep _ _ _ _ _ | show vskip _ _ _ | show withV _ _) | ((with_reducible show endA _ _ _ _ _ _ _); simp -implicitDefEqProofs only [endA])); simp -dsimp -implicitDefEqProofs (maxSteps := 1000000) (disch := first | omega | (simp only [LN]; omega)) only [go_sem, Int.reduceToNat, Int.reducePow, Nat.reducePow, Int.reduceAdd, Int.reduceMul, Int.reduceSub, Int.reduceNeg, Nat.reduceAdd, Nat.reduceMul, Nat.reduceSub, Nat.reduceEqDiff, Nat.reduceLT, Nat.reduceLeDiff])
      | ((first | (with_reducible refine r_ret ?_) | (with_reducible refine pick_viewG default (by first | omega | (simp only [LN]; omega)) (by first | omega | (simp only [LN]; omega)) ?_) | (with_reducible refine pick_own default (by first | omega | (simp only [LN]; omega)) ?_) | (with_reducible refine And.intro (by first | decide | omega | assumption | (simp only [LN]; omega)) ?_) | ((with_reducible show pickE _ _ _); first | refine pickE_intro _ ⟨by omega, by rfl⟩ ?_ | refine pickE_intro _ (by rfl) ?_) | fail); try simp -dsimp -implicitDefEqProofs (maxSteps := 1000000) (disch := first | omega | (simp only [LN]; omega)) only [go_sem, Int.reduceToNat, Int.reducePow, Nat.reducePow, Int.reduceAdd, Int.reduceMul, Int.reduceSub, Int.reduceNeg, Nat.reduceAdd, Nat.reduceMul, Nat.reduceSub, Nat.reduceEqDiff, Nat.reduceLT, Nat.reduceLeDiff])
      | fail)
    all_goals first | rfl | omega | trace_state
set_option maxRecDepth 100000 in
set_option maxHeartbeats 4000000 in
theorem c46 (w : Nat) (hw : WOk w) : PCalls Tryd.prog 46 [.v (.int .i64 w)] (.v (.int .u64 (mskN w))) := by
  refine pcalls_of (E := E) (fn := Tryd.f46) 8 [.tmp 2] rfl rfl rfl rfl (by decide) rfl ?_
  rcases hw with rfl | rfl | rfl | rfl | rfl
  all_goals
    repeat' (first
      | (with_reducible first | refine r_seq ?_ | refine r_block ?_ | refine fork_not ?_ | refine fork_and ?_ | refine fork_or ?_ | refine chk_ok (by kernel_rfl) ?_)
      | ((with_reducible first | refine fork_dec ?_ ?_ | refine fork_eq ?_ ?_ | refine fork_ne ?_ ?_ | refine fork_intro ?_ ?_) <;> intro h <;> try (exfalso; first | omega | exact h rfl | (revert h; decide) | (cases h; done)))
      | ((with_reducible show False); omega)
      | ((first | (with_reducible first | refine r_exit ?_ | refine r_skip ?_ | refine r_cond ?_ | refine r_region ?_ | show VX _ _ _ _ _ _ _ | show vstep _ _ _ _ _ | show vskip _ _ _ | show withV _ _) | ((with_reducible show endA _ _ _ _ _ _ _); simp -implicitDefEqProofs only [endA])); simp -dsimp -implicitDefEqProofs (maxSteps := 1000000) (disch := first | omega | (simp only [LN]; omega)) only [go_sem, Int.reduceToNat, Int.reducePow, Nat.reducePow, Int.reduceAdd, Int.reduceMul, Int.reduceSub, Int.reduceNeg, Nat.reduceAdd, Nat.reduceMul, Nat.reduceSub, Nat.reduceEqDiff, Nat.reduceLT, Nat.reduceLeDiff])
      | ((first | (with_reducible refine r_ret ?_) | (with_reducible refine pick_viewG default (by first | omega | (simp only [LN]; omega)) (by first | omega | (simp only [LN]; omega)) ?_) | (with_reducible refine pick_own default (by first | omega | (simp only [LN]; omega)) ?_) | (with_reducible refine And.intro (by first | decide | omega | assumption | (simp only [LN]; omega)) ?_) | ((with_reducible show pickE _ _ _); first | refine pickE_intro _ ⟨by omega, by rfl⟩ ?_ | refine pickE_intro _ (by rfl) ?_) | fail); try simp -dsimp -implicitDefEqProofs (maxSteps := 1000000) (disch := first | omega | (simp only [LN]; omega)) only [go_sem, Int.reduceToNat, Int.reducePow, Nat.reducePow, Int.reduceAdd, Int.reduceMul, Int.reduceSub, Int.reduceNeg, Nat.reduceAdd, Nat.reduceMul, Nat.reduceSub, Nat.reduceEqDiff, Nat.reduceLT, Nat.reduceLeDiff])
      | fail)
    all_goals first | rfl | omega | trace_state
set_option maxRecDepth 100000 in
set_option maxHeartbeats 4000000 in
theorem c48 (v s w : Nat) (hv : v < 18446744073709551616) (hw : WOk w) (hs : s + w ≤ 64) : PCalls Tryd.prog 48 [.v (.int .u64 v), .v (.int .i64 s), .v (.int .i64 w)] (.v (.int .u64 (getB v s w))) := by
  refine pcalls_of (E := E) (fn := Tryd.f48) 18 [.tmp 6] rfl rfl rfl rfl (by decide) rfl ?_
  have h1 := wok_1 hw
  repeat' (first
    | (with_reducible first | refine r_seq ?_ | refine r_block ?_ | refine fork_not ?_ | refine fork_and ?_ | refine fork_or ?_ | refine chk_ok (by kernel_rfl) ?_)
    | ((with_reducible first | refine fork_dec ?_ ?_ | refine fork_eq ?_ ?_ | refine fork_ne ?_ ?_ | refine fork_intro ?_ ?_) <;> intro h <;> try (exfalso; first | omega | exact h rfl | (revert h; decide) | (cases h; done)))
    | ((with_reducible show False); omega)
    | ((first | (with_reducible first | refine r_exit ?_ | refine r_skip ?_ | refine r_cond ?_ | refine r_region ?_ | show VX _ _ _ _ _ _ _ | show vstep _ _ _ _ _ | show vskip _ _ _ | show withV _ _) | ((with_reducible show endA _ _ _ _ _ _ _); simp -implicitDefEqProofs only [endA])); simp -dsimp -implicitDefEqProofs (maxSteps := 1000000) (disch := first | omega | (simp only [LN]; omega)) only [go_sem, Int.reduceToNat, Int.reducePow, Nat.reducePow, Int.reduceAdd, Int.reduceMul, Int.reduceSub, Int.reduceNeg, Nat.reduceAdd, Nat.reduceMul, Nat.reduceSub, Nat.reduceEqDiff, Nat.reduceLT, Nat.reduceLeDiff])
    | ((first | (with_reducible refine r_ret ?_) | (with_reducible refine pick_viewG default (by first | omega | (simp only [LN]; omega)) (by first | omega | (simp only [LN]; omega)) ?_) | (with_reducible refine pick_own default (by first | omega | (simp only [LN]; omega)) ?_) | (with_reducible refine And.intro (by first | decide | omega | assumption | (simp only [LN]; omega)) ?_) | ((with_reducible apply callK_pure); (first | exact c58 s w h1.1 hs | exact c59 w hw | fail)) | ((with_reducible apply callF_lend); (first | exact c58 s w h1.1 hs | exact c59 w hw | fail); rfl) | ((with_reducible apply callF_go); (first | exact c58 s w h1.1 hs | exact c59 w hw | fail)) | ((with_reducible show pickE _ _ _); first | refine pickE_intro _ ⟨by omega, by rfl⟩ ?_ | refine pickE_intro _ (by rfl) ?_) | fail); try simp -dsimp -implicitDefEqProofs (maxSteps := 1000000) (disch := first | omega | (simp only [LN]; omega)) only [go_sem, Int.reduceToNat, Int.reducePow, Nat.reducePow, Int.reduceAdd, Int.reduceMul, Int.reduceSub, Int.reduceNeg, Nat.reduceAdd, Nat.reduceMul, Nat.reduceSub, Nat.reduceEqDiff, Nat.reduceLT, Nat.reduceLeDiff])
    | fail)
  rw [fieldE hv (by omega) h1.2]
set_option maxRecDepth 100000 in
set_option maxHeartbeats 4000000 in
theorem c57 (v s w x : Nat) (hv : v < 18446744073709551616) (hx : x < 18446744073709551616) (hw : WOk w) (hs : s + w ≤ 64) : PCalls Tryd.prog 57 [.v (.int .u64 v), .v (.int .i64 s), .v (.int .i64 w), .v (.int .u64 x)] (.v (.int .u64 (setB v s w x))) := by
  refine pcalls_of (E := E) (fn := Tryd.f57) 30 [.tmp 8] rfl rfl rfl rfl (by decide) rfl ?_
  have h1 := wok_1 hw
  repeat' (first
    | (with_reducible first | refine r_seq ?_ | refine r_block ?_ | refine fork_not ?_ | refine fork_and ?_ | refine fork_or ?_ | refine chk_ok (by kernel_rfl) ?_)
    | ((with_reducible first | refine fork_dec ?_ ?_ | refine fork_eq ?_ ?_ | refine fork_ne ?_ ?_ | refine fork_intro ?_ ?_) <;> intro h <;> try (exfalso; first | omega | exact h rfl | (revert h; decide) | (cases h; done)))
    | ((with_reducible show False); omega)
    | ((first | (with_reducible first | refine r_exit ?_ | refine r_skip ?_ | refine r_cond ?_ | refine r_region ?_ | show VX _ _ _ _ _ _ _ | show vstep _ _ _ _ _ | show vskip _ _ _ | show withV _ _) | ((with_reducible show endA _ _ _ _ _ _ _); simp -implicitDefEqProofs only [endA])); simp -dsimp -implicitDefEqProofs (maxSteps := 1000000) (disch := first | omega | (simp only [LN]; omega)) only [go_sem, Int.reduceToNat, Int.reducePow, Nat.reducePow, Int.reduceAdd, Int.reduceMul, Int.reduceSub, Int.reduceNeg, Nat.reduceAdd, Nat.reduceMul, Nat.reduceSub, Nat.reduceEqDiff, Nat.reduceLT, Nat.reduceLeDiff])
    | ((first | (with_reducible refine r_ret ?_) | (with_reducible refine pick_viewG default (by first | omega | (simp only [LN]; omega)) (by first | omega | (simp only [LN]; omega)) ?_) | (with_reducible refine pick_own default (by first | omega | (simp only [LN]; omega)) ?_) | (with_reducible refine And.intro (by first | decide | omega | assumption | (simp only [LN]; omega)) ?_) | ((with_reducible apply callK_pure); (first | exact c58 s w h1.1 hs | exact c59 w hw | fail)) | ((with_reducible apply callF_lend); (first | exact c58 s w h1.1 hs | exact c59 w hw | fail); rfl) | ((with_reducible apply callF_go); (first | exact c58 s w h1.1 hs | exact c59 w hw | fail)) | ((with_reducible show pickE _ _ _); first | refine pickE_intro _ ⟨by omega, by rfl⟩ ?_ | refine pickE_intro _ (by rfl) ?_) | fail); try simp -dsimp -implicitDefEqProofs (maxSteps := 1000000) (disch := first | omega | (simp only [LN]; omega)) only [go_sem, Int.reduceToNat, Int.reducePow, Nat.reducePow, Int.reduceAdd, Int.reduceMul, Int.reduceSub, Int.reduceNeg, Nat.reduceAdd, Nat.reduceMul, Nat.reduceSub, Nat.reduceEqDiff, Nat.reduceLT, Nat.reduceLeDiff])
    | fail)
  rw [andE hx h1.2, setE hs h1.2 (Nat.mod_lt _ (Nat.two_pow_pos w)), setB_mod]
end Go.Proofs.YtlkffmmgcoiniaaDoor
