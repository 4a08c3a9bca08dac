/- Contracts of functions of this program, and the plain facts that they rest on. No conditions. -/
import Derived.Test.YtcnbngflehiphaaDoorD7
import Derived.Test.YtcnbngflehiphaaDoorD11
set_option linter.unusedSimpArgs false
set_option linter.unusedVariables false
namespace Go.Proofs.YtcnbngflehiphaaDoor
open Go Go.Ab
attribute [local irreducible] callK callF loopQ vstep vskip pickE hideP
attribute [local go_sem] eI
set_option maxRecDepth 100000
theorem wr32 (x : Int) : IntKind.u32.wrap x = x % 4294967296 := IntKind.wrap_u32 x
theorem xor32 (a b : Nat) (ha : a < 4294967296) (hb : b < 4294967296) : IntKind.u32.wrap ((BitVec.ofInt IntKind.u32.bits (a : Int) ^^^ BitVec.ofInt IntKind.u32.bits (b : Int)).toNat : Int) = ((a ^^^ b : Nat) : Int) := by
  show IntKind.u32.wrap ((BitVec.ofInt 32 (a : Int) ^^^ BitVec.ofInt 32 (b : Int)).toNat : Int) = _
  have := xor_lt32 ha hb
  rw [BitVec.toNat_xor, BitVec.ofInt_natCast, BitVec.ofInt_natCast, BitVec.toNat_ofNat, BitVec.toNat_ofNat, Nat.mod_eq_of_lt (by omega), Nat.mod_eq_of_lt (by omega), wr32]
  omega
theorem and15 (a : Nat) (ha : a < 4294967296) : IntKind.u32.wrap ((BitVec.ofInt IntKind.u32.bits (a : Int) &&& BitVec.ofInt IntKind.u32.bits 15).toNat : Int) = ((a % 16 : Nat) : Int) := by
  show IntKind.u32.wrap ((BitVec.ofInt 32 (a : Int) &&& BitVec.ofInt 32 ((15 : Nat) : Int)).toNat : Int) = _
  rw [BitVec.toNat_and, BitVec.ofInt_natCast, BitVec.ofInt_natCast, BitVec.toNat_ofNat, BitVec.toNat_ofNat, Nat.mod_eq_of_lt (by omega), Nat.mod_eq_of_lt (by omega), wr32, show (15 : Nat) = 2 ^ 4 - 1 from rfl, Nat.and_two_pow_sub_one_eq_mod]
  omega
theorem nib_t : ∀ n, n < 16 → nibZs.getD n 0 = (tN n : Int) := by decide
theorem nib_at (n : Nat) (h : n < 16) : nth (mapP nibPs) n = some (.p (.v (.int .u32 (tN n : Int)))) := by rw [nth_nib n h, nib_t n h]
theorem n_step (x : Nat) (hx : x < 4294967296) : IntKind.u32.wrap ((BitVec.ofInt IntKind.u32.bits ((x : Int) / 16) ^^^ BitVec.ofInt IntKind.u32.bits (tN (x % 16) : Int)).toNat : Int) = (nN x : Int) :=
  xor32 (x / 16) (tN (x % 16)) (by omega) (tN_top _ (by omega)).2
set_option maxRecDepth 100000 in
set_option maxHeartbeats 4000000 in
theorem c86 (r b : Nat) (hr : r < 4294967296) (hb : b < 256) : PCalls Tryd.prog 86 [.v (.int .u32 r), .v (.int .u8 b)] (.v (.int .u32 (stN r b))) := by
  refine pcalls_of (E := E) (fn := Tryd.f86) 23 [.tmp 4] rfl rfl rfl rfl (by decide) rfl ?_
  have e0 : IntKind.u32.wrap (b : Int) = b := by rw [wr32]; omega
  have e1 := xor32 r b hr (by omega)
  have hx : r ^^^ b < 4294967296 := xor_lt32 hr (by omega)
  have e8 : stN r b = nN (nN (r ^^^ b)) := rfl
  rw [e8]
  generalize r ^^^ b = x at *
  have e2 := and15 x hx
  have e3 := nib_at (x % 16) (by omega)
  have e4 := n_step x hx
  have hy := nN_lt hx
  generalize nN x = y at *
  have e5 := and15 y hy
  have e6 := nib_at (y % 16) (by omega)
  have e7 := n_step y hy
  have m1 : ((x % 16 : Nat) : Int) < 16 := by omega
  have m2 : ((y % 16 : Nat) : Int) < 16 := by omega
  repeat' (first
    | (with_reducible first | refine r_seq ?_ | refine r_block ?_ | refine fork_not ?_ | refine fork_and ?_ | refine fork_or ?_ | refine chk_ok (by kernel_rfl) ?_)
    | ((with_reducible first | refine fork_dec ?_ ?_ | refine fork_eq ?_ ?_ | refine fork_ne ?_ ?_ | refine fork_intro ?_ ?_) <;> intro h)
    | ((with_reducible show False); omega)
    | ((first | (with_reducible first | refine r_exit ?_ | refine r_skip ?_ | refine r_cond ?_ | refine r_region ?_ | show VX _ _ _ _ _ _ _ | show vstep _ _ _ _ _ | show vskip _ _ _ | show withV _ _) | ((with_reducible show endA _ _ _ _ _ _ _); simp -implicitDefEqProofs only [endA])); simp -dsimp -implicitDefEqProofs (maxSteps := 1000000) (disch := first | omega | (simp only [LN, e0, e1, e2, e3, e4, e5, e6, e7, m1, m2, Nat.mul_one]; omega)) only [go_sem, Int.reduceToNat, Int.reducePow, Nat.reducePow, Int.reduceAdd, Int.reduceMul, Int.reduceSub, Int.reduceNeg, Nat.reduceAdd, Nat.reduceMul, Nat.reduceSub, Nat.reduceEqDiff, Nat.reduceLT, Nat.reduceLeDiff, e0, e1, e2, e3, e4, e5, e6, e7, m1, m2, Nat.mul_one])
    | ((first | (with_reducible refine r_ret ?_) | (with_reducible refine pick_viewG default (by first | omega | (simp only [LN, e0, e1, e2, e3, e4, e5, e6, e7, m1, m2, Nat.mul_one]; omega)) (by first | omega | (simp only [LN, e0, e1, e2, e3, e4, e5, e6, e7, m1, m2, Nat.mul_one]; omega)) ?_) | (with_reducible refine pick_own default (by first | omega | (simp only [LN, e0, e1, e2, e3, e4, e5, e6, e7, m1, m2, Nat.mul_one]; omega)) ?_) | (with_reducible refine And.intro (by first | decide | omega | assumption | (simp only [LN, e0, e1, e2, e3, e4, e5, e6, e7, m1, m2, Nat.mul_one]; omega)) ?_) | ((with_reducible show pickE _ _ _); first | refine pickE_intro _ ⟨by omega, by rfl⟩ ?_ | refine pickE_intro _ (by rfl) ?_) | fail); try simp -dsimp -implicitDefEqProofs (maxSteps := 1000000) (disch := first | omega | (simp only [LN, e0, e1, e2, e3, e4, e5, e6, e7, m1, m2, Nat.mul_one]; omega)) only [go_sem, Int.reduceToNat, Int.reducePow, Nat.reducePow, Int.reduceAdd, Int.reduceMul, Int.reduceSub, Int.reduceNeg, Nat.reduceAdd, Nat.reduceMul, Nat.reduceSub, Nat.reduceEqDiff, Nat.reduceLT, Nat.reduceLeDiff, e0, e1, e2, e3, e4, e5, e6, e7, m1, m2, Nat.mul_one])
    | fail)
theorem up_app : ∀ (l : List UInt8) (r : Nat) (x : UInt8), upN r (l ++ [x]) = stN (upN r l) x.toNat
  | [], _, _ => rfl
  | _ :: l, r, x => by rw [List.cons_append, upN, up_app l]; rfl
theorem stN_lt {r b : Nat} (hr : r < 4294967296) (hb : b < 256) : stN r b < 4294967296 := nN_lt (nN_lt (xor_lt32 hr (by omega)))
theorem upN_lt : ∀ (l : List UInt8) {r : Nat}, r < 4294967296 → upN r l < 4294967296
  | [], _, h => h
  | b :: l, _, h => upN_lt l (stN_lt h b.toNat_lt)
theorem up_take {l : List UInt8} {i r : Nat} (h : i < l.length) : upN r (l.take (i + 1)) = stN (upN r (l.take i)) (l.getD i 0).toNat := by
  rw [List.take_succ_eq_append_getElem h, up_app, List.getD_eq_getElem?_getD, List.getElem?_eq_getElem h]; rfl
theorem not32 (a : Nat) (ha : a < 4294967296) : IntKind.u32.wrap ((BitVec.ofInt IntKind.u32.bits (if IntKind.u32.signed = true then -1 else IntKind.u32.max) ^^^ BitVec.ofInt IntKind.u32.bits (a : Int)).toNat : Int) = ((4294967295 - a : Nat) : Int) := by
  show IntKind.u32.wrap ((BitVec.ofInt 32 4294967295 ^^^ BitVec.ofInt 32 (a : Int)).toNat : Int) = _
  rw [show BitVec.ofInt 32 4294967295 = BitVec.allOnes 32 by decide, BitVec.allOnes_xor, BitVec.toNat_not, BitVec.ofInt_natCast, BitVec.toNat_ofNat, Nat.mod_eq_of_lt (by omega), wr32]
  omega
theorem upN_nil (r : Nat) : upN r [] = r := rfl
def sumN (c : Nat) (l : List UInt8) : Nat := 4294967295 - upN (4294967295 - c) l
set_option maxRecDepth 100000 in
set_option maxHeartbeats 4000000 in
theorem c58 (c : Nat) (l : List UInt8) (hc : c < 4294967296) (hl : l.length ≤ 9000000) : PCalls Tryd.prog 58 [.v (.int .u32 c), .view 1 (l.map eB)] (.v (.int .u32 (sumN c l))) := by
  refine pcalls_facts ⟨_, rfl, rfl, by decide⟩ fun hf => ?_
  simp only [go_sem, big] at hf
  refine pcalls_of (E := E) (fn := Tryd.f58) 22 [.tmp 4] rfl rfl rfl rfl (by decide) rfl ?_
  have e1 := not32 c hc
  repeat' (first
    | (with_reducible first | refine r_seq ?_ | refine r_block ?_ | refine fork_not ?_ | refine fork_and ?_ | refine fork_or ?_ | refine chk_ok (by kernel_rfl) ?_)
    | ((with_reducible first | refine fork_dec ?_ ?_ | refine fork_eq ?_ ?_ | refine fork_ne ?_ ?_ | refine fork_intro ?_ ?_) <;> intro h)
    | ((with_reducible show False); omega)
    | ((first | (with_reducible first | refine r_exit ?_ | refine r_skip ?_ | refine r_cond ?_ | refine r_region ?_ | show VX _ _ _ _ _ _ _ | show vstep _ _ _ _ _ | show vskip _ _ _ | show withV _ _) | ((with_reducible show endA _ _ _ _ _ _ _); simp -implicitDefEqProofs only [endA])); simp -dsimp -implicitDefEqProofs (maxSteps := 1000000) (disch := first | omega | (simp only [LN, e1]; omega)) only [go_sem, Int.reduceToNat, Int.reducePow, Nat.reducePow, Int.reduceAdd, Int.reduceMul, Int.reduceSub, Int.reduceNeg, Nat.reduceAdd, Nat.reduceMul, Nat.reduceSub, Nat.reduceEqDiff, Nat.reduceLT, Nat.reduceLeDiff, e1])
    | ((first | (with_reducible refine r_ret ?_) | (with_reducible refine pick_viewG default (by first | omega | (simp only [LN, e1]; omega)) (by first | omega | (simp only [LN, e1]; omega)) ?_) | (with_reducible refine pick_own default (by first | omega | (simp only [LN, e1]; omega)) ?_) | (with_reducible refine And.intro (by first | decide | omega | assumption | (simp only [LN, e1]; omega)) ?_) | ((with_reducible show pickE _ _ _); first | refine pickE_intro _ ⟨by omega, by rfl⟩ ?_ | refine pickE_intro _ (by rfl) ?_) | fail); try simp -dsimp -implicitDefEqProofs (maxSteps := 1000000) (disch := first | omega | (simp only [LN, e1]; omega)) only [go_sem, Int.reduceToNat, Int.reducePow, Nat.reducePow, Int.reduceAdd, Int.reduceMul, Int.reduceSub, Int.reduceNeg, Nat.reduceAdd, Nat.reduceMul, Nat.reduceSub, Nat.reduceEqDiff, Nat.reduceLT, Nat.reduceLeDiff, e1])
    | fail)
  refine r_loopA (α := Nat) [10, 11] (fun i b => [(5, .p (.v (.int .u32 (upN (4294967295 - c) (l.take i) : Nat)))), (12, aI i)]) (fun i b => []) (fun i => []) (fun i => i ≤ l.length) (fun i => l.length - i) (0) ?h0_1 ?hs0_1 ?I_1 ?hI_1 ?round_1
  case hI_1 => intro x; (simp -dsimp -implicitDefEqProofs (maxSteps := 1000000) (disch := first | omega | (simp only [LN]; omega)) only [go_sem, Int.reduceToNat, Int.reducePow, Nat.reducePow, Int.reduceAdd, Int.reduceMul, Int.reduceSub, Int.reduceNeg, Nat.reduceAdd, Nat.reduceMul, Nat.reduceSub, Nat.reduceEqDiff, Nat.reduceLT, Nat.reduceLeDiff]) <;> exact rfl
  case hs0_1 => refine wk_auto ?_; (simp -dsimp -implicitDefEqProofs (maxSteps := 1000000) (disch := first | omega | (simp only [LN, upN_nil]; omega)) only [go_sem, Int.reduceToNat, Int.reducePow, Nat.reducePow, Int.reduceAdd, Int.reduceMul, Int.reduceSub, Int.reduceNeg, Nat.reduceAdd, Nat.reduceMul, Nat.reduceSub, Nat.reduceEqDiff, Nat.reduceLT, Nat.reduceLeDiff, upN_nil]) <;> (try omega)
  case h0_1 => exact Nat.zero_le _
  case round_1 =>
    rintro i h1
    have hu := upN_lt (l.take i) (r := 4294967295 - c) (by omega)
    have hb := UInt8.toNat_lt (l.getD i 0)
    have e2 := not32 _ hu
    repeat' (first
      | (with_reducible first | refine r_seq ?_ | refine r_block ?_ | refine fork_not ?_ | refine fork_and ?_ | refine fork_or ?_ | refine chk_ok (by kernel_rfl) ?_)
      | ((with_reducible first | refine fork_dec ?_ ?_ | refine fork_eq ?_ ?_ | refine fork_ne ?_ ?_ | refine fork_intro ?_ ?_) <;> intro h)
      | ((with_reducible show False); omega)
      | ((first | (with_reducible first | refine r_exit ?_ | refine r_skip ?_ | refine r_cond ?_ | refine r_region ?_ | show VX _ _ _ _ _ _ _ | show vstep _ _ _ _ _ | show vskip _ _ _ | show withV _ _) | ((with_reducible show endA _ _ _ _ _ _ _); simp -implicitDefEqProofs only [endA])); simp -dsimp -implicitDefEqProofs (maxSteps := 1000000) (disch := first | omega | (simp only [LN, e2]; omega)) only [go_sem, Int.reduceToNat, Int.reducePow, Nat.reducePow, Int.reduceAdd, Int.reduceMul, Int.reduceSub, Int.reduceNeg, Nat.reduceAdd, Nat.reduceMul, Nat.reduceSub, Nat.reduceEqDiff, Nat.reduceLT, Nat.reduceLeDiff, e2])
      | ((first | (with_reducible refine r_ret ?_) | (with_reducible refine pick_viewG default (by first | omega | (simp only [LN, e2]; omega)) (by first | omega | (simp only [LN, e2]; omega)) ?_) | (with_reducible refine pick_own default (by first | omega | (simp only [LN, e2]; omega)) ?_) | (with_reducible refine And.intro (by first | decide | omega | assumption | (simp only [LN, e2]; omega)) ?_) | ((with_reducible apply callK_pure); (exact c86 (upN (4294967295 - c) (l.take i)) (l.getD i 0).toNat hu hb)) | ((with_reducible apply callF_lend); (exact c86 (upN (4294967295 - c) (l.take i)) (l.getD i 0).toNat hu hb); rfl) | ((with_reducible apply callF_go); (exact c86 (upN (4294967295 - c) (l.take i)) (l.getD i 0).toNat hu hb)) | ((with_reducible show pickE _ _ _); first | refine pickE_intro _ ⟨by omega, by rfl⟩ ?_ | refine pickE_intro _ (by rfl) ?_) | fail); try simp -dsimp -implicitDefEqProofs (maxSteps := 1000000) (disch := first | omega | (simp only [LN, e2]; omega)) only [go_sem, Int.reduceToNat, Int.reducePow, Nat.reducePow, Int.reduceAdd, Int.reduceMul, Int.reduceSub, Int.reduceNeg, Nat.reduceAdd, Nat.reduceMul, Nat.reduceSub, Nat.reduceEqDiff, Nat.reduceLT, Nat.reduceLeDiff, e2])
      | fail)
    · ((refine loopQ_next (i + 1) ?_ ?_ ?_; (omega); (show _ < _; omega); (simp -dsimp -implicitDefEqProofs (maxSteps := 1000000) (disch := first | omega | (simp only [LN]; omega)) only [go_sem, Int.reduceToNat, Int.reducePow, Nat.reducePow, Int.reduceAdd, Int.reduceMul, Int.reduceSub, Int.reduceNeg, Nat.reduceAdd, Nat.reduceMul, Nat.reduceSub, Nat.reduceEqDiff, Nat.reduceLT, Nat.reduceLeDiff, up_take (l := l) (i := i) (r := 4294967295 - c) (by omega)]; try trivial)))
    · have e : i = l.length := by omega
      subst e
      rw [List.take_length] at e2
      rw [e2]; rfl
set_option maxRecDepth 100000 in
set_option maxHeartbeats 4000000 in
theorem c33 (l : List UInt8) (hl : l.length ≤ 9000000) : PCalls Tryd.prog 33 [.view 1 (l.map eB)] (.v (.int .u32 (sumN 0 l))) := by
  refine pcalls_facts ⟨_, rfl, rfl, by decide⟩ fun hf => ?_
  simp only [go_sem, big] at hf
  refine pcalls_of (E := E) (fn := Tryd.f33) 5 [.tmp 2] rfl rfl rfl rfl (by decide) rfl ?_
  repeat' (first
    | (with_reducible first | refine r_seq ?_ | refine r_block ?_ | refine fork_not ?_ | refine fork_and ?_ | refine fork_or ?_ | refine chk_ok (by kernel_rfl) ?_)
    | ((with_reducible first | refine fork_dec ?_ ?_ | refine fork_eq ?_ ?_ | refine fork_ne ?_ ?_ | refine fork_intro ?_ ?_) <;> intro h)
    | ((with_reducible show False); omega)
    | ((first | (with_reducible first | refine r_exit ?_ | refine r_skip ?_ | refine r_cond ?_ | refine r_region ?_ | show VX _ _ _ _ _ _ _ | show vstep _ _ _ _ _ | show vskip _ _ _ | show withV _ _) | ((with_reducible show endA _ _ _ _ _ _ _); simp -implicitDefEqProofs only [endA])); simp -dsimp -implicitDefEqProofs (maxSteps := 1000000) (disch := first | omega | (simp only [LN]; omega)) only [go_sem, Int.reduceToNat, Int.reducePow, Nat.reducePow, Int.reduceAdd, Int.reduceMul, Int.reduceSub, Int.reduceNeg, Nat.reduceAdd, Nat.reduceMul, Nat.reduceSub, Nat.reduceEqDiff, Nat.reduceLT, Nat.reduceLeDiff])
    | ((first | (with_reducible refine r_ret ?_) | (with_reducible refine pick_viewG default (by first | omega | (simp only [LN]; omega)) (by first | omega | (simp only [LN]; omega)) ?_) | (with_reducible refine pick_own default (by first | omega | (simp only [LN]; omega)) ?_) | (with_reducible refine And.intro (by first | decide | omega | assumption | (simp only [LN]; omega)) ?_) | ((with_reducible apply callK_pure); (exact c58 0 l (by decide) hl)) | ((with_reducible apply callF_lend); (exact c58 0 l (by decide) hl); rfl) | ((with_reducible apply callF_go); (exact c58 0 l (by decide) hl)) | ((with_reducible show pickE _ _ _); first | refine pickE_intro _ ⟨by omega, by rfl⟩ ?_ | refine pickE_intro _ (by rfl) ?_) | fail); try simp -dsimp -implicitDefEqProofs (maxSteps := 1000000) (disch := first | omega | (simp only [LN]; omega)) only [go_sem, Int.reduceToNat, Int.reducePow, Nat.reducePow, Int.reduceAdd, Int.reduceMul, Int.reduceSub, Int.reduceNeg, Nat.reduceAdd, Nat.reduceMul, Nat.reduceSub, Nat.reduceEqDiff, Nat.reduceLT, Nat.reduceLeDiff])
    | fail)
  all_goals rfl
set_option maxRecDepth 100000 in
set_option maxHeartbeats 4000000 in
theorem c32 (l : List UInt8) (hl : l.length ≤ 9000000) : PCalls Tryd.prog 32 [eI l] (.v (.int .u32 (sumN 0 l))) := by
  refine pcalls_of (E := E) (fn := Tryd.f32) 6 [.tmp 2] rfl rfl rfl rfl (by decide) rfl ?_
  repeat' (first
    | (with_reducible first | refine r_seq ?_ | refine r_block ?_ | refine fork_not ?_ | refine fork_and ?_ | refine fork_or ?_ | refine chk_ok (by kernel_rfl) ?_)
    | ((with_reducible first | refine fork_dec ?_ ?_ | refine fork_eq ?_ ?_ | refine fork_ne ?_ ?_ | refine fork_intro ?_ ?_) <;> intro h)
    | ((with_reducible show False); omega)
    | ((first | (with_reducible first | refine r_exit ?_ | refine r_skip ?_ | refine r_cond ?_ | refine r_region ?_ | show VX _ _ _ _ _ _ _ | show vstep _ _ _ _ _ | show vskip _ _ _ | show withV _ _) | ((with_reducible show endA _ _ _ _ _ _ _); simp -implicitDefEqProofs only [endA])); simp -dsimp -implicitDefEqProofs (maxSteps := 1000000) (disch := first | omega | (simp only [LN]; omega)) only [go_sem, Int.reduceToNat, Int.reducePow, Nat.reducePow, Int.reduceAdd, Int.reduceMul, Int.reduceSub, Int.reduceNeg, Nat.reduceAdd, Nat.reduceMul, Nat.reduceSub, Nat.reduceEqDiff, Nat.reduceLT, Nat.reduceLeDiff])
    | ((first | (with_reducible refine r_ret ?_) | (with_reducible refine pick_viewG default (by first | omega | (simp only [LN]; omega)) (by first | omega | (simp only [LN]; omega)) ?_) | (with_reducible refine pick_own default (by first | omega | (simp only [LN]; omega)) ?_) | (with_reducible refine And.intro (by first | decide | omega | assumption | (simp only [LN]; omega)) ?_) | ((with_reducible apply callK_pure); (first | exact c17 l hl | exact c33 l hl | fail)) | ((with_reducible apply callF_lend); (first | exact c17 l hl | exact c33 l hl | fail); rfl) | ((with_reducible apply callF_go); (first | exact c17 l hl | exact c33 l hl | fail)) | ((with_reducible show pickE _ _ _); first | refine pickE_intro _ ⟨by omega, by rfl⟩ ?_ | refine pickE_intro _ (by rfl) ?_) | fail); try simp -dsimp -implicitDefEqProofs (maxSteps := 1000000) (disch := first | omega | (simp only [LN]; omega)) only [go_sem, Int.reduceToNat, Int.reducePow, Nat.reducePow, Int.reduceAdd, Int.reduceMul, Int.reduceSub, Int.reduceNeg, Nat.reduceAdd, Nat.reduceMul, Nat.reduceSub, Nat.reduceEqDiff, Nat.reduceLT, Nat.reduceLeDiff])
    | fail)
  all_goals rfl
theorem xj_succ (bit : Int) (pat n j : Nat) : xJ bit pat n (j + 1) = if cndJ bit pat n j = true then xJ bit pat n j ^^^ 2 ^ (bit + j).toNat else xJ bit pat n j := rfl
theorem and1 (a : Nat) (ha : a < 4294967296) : IntKind.u32.wrap ((BitVec.ofInt IntKind.u32.bits (a : Int) &&& BitVec.ofInt IntKind.u32.bits 1).toNat : Int) = ((a % 2 : Nat) : Int) := by
  show IntKind.u32.wrap ((BitVec.ofInt 32 (a : Int) &&& BitVec.ofInt 32 ((1 : Nat) : Int)).toNat : Int) = _
  rw [BitVec.toNat_and, BitVec.ofInt_natCast, BitVec.ofInt_natCast, BitVec.toNat_ofNat, BitVec.toNat_ofNat, Nat.mod_eq_of_lt (by omega), Nat.mod_eq_of_lt (by omega), wr32, Nat.and_one_is_mod]
  omega
theorem xor8 (a b : Nat) (ha : a < 256) (hb : b < 256) : IntKind.u8.wrap ((BitVec.ofInt IntKind.u8.bits (a : Int) ^^^ BitVec.ofInt IntKind.u8.bits (b : Int)).toNat : Int) = ((a ^^^ b : Nat) : Int) := by
  show IntKind.u8.wrap ((BitVec.ofInt 8 (a : Int) ^^^ BitVec.ofInt 8 (b : Int)).toNat : Int) = _
  have := xor_lt8 ha hb
  rw [BitVec.toNat_xor, BitVec.ofInt_natCast, BitVec.ofInt_natCast, BitVec.toNat_ofNat, BitVec.toNat_ofNat, Nat.mod_eq_of_lt (by omega), Nat.mod_eq_of_lt (by omega), wr8]
  omega
theorem tdiv8n (a : Nat) : Int.tdiv (a : Int) 8 = ((a / 8 : Nat) : Int) := rfl
theorem tmod8n (a : Nat) : Int.tmod (a : Int) 8 = ((a % 8 : Nat) : Int) := rfl
theorem tdiv8_pos {x : Int} (h : 0 ≤ x) : x.tdiv 8 = x / 8 := Int.tdiv_eq_ediv_of_nonneg h
theorem tdiv8_neg {x : Int} (h : x < 0) : x.tdiv 8 ≤ 0 ∧ -9223372036854775808 ≤ x.tdiv 8 ∨ x < -9223372036854775808 := by
  obtain ⟨n, rfl⟩ : ∃ n : Nat, x = -(n : Int) := ⟨x.natAbs, by omega⟩
  rw [Int.neg_tdiv, tdiv8n]
  omega
theorem pow2_8 (m : Nat) : ∀ k, k < 8 → 2 ^ k < 256 := fun k h => by
  have : (2 : Nat) ^ k ≤ 2 ^ 7 := Nat.pow_le_pow_right (by decide) (by omega)
  omega
theorem pat_div (pat j : Nat) (h : pat < 4294967296) : pat / 2 ^ j < 4294967296 := Nat.lt_of_le_of_lt (Nat.div_le_self _ _) h
theorem flip_step (p : List UInt8) (X K : Nat) (h : K / 8 < p.length) : ((qL p X).map eB).set ((K : Int) / 8).toNat (PV.v (Value.int IntKind.u8 (IntKind.u8.wrap
    ((BitVec.ofInt IntKind.u8.bits (((qL p X).getD ((K : Int) / 8).toNat default).toNat : Int) ^^^ BitVec.ofInt IntKind.u8.bits (IntKind.u8.wrap (1 * 2 ^ min (IntKind.u64.wrap ((K % 8 : Nat) : Int)).toNat 8))).toNat : Int)))) = (qL p (X ^^^ 2 ^ K)).map eB := by
  have e1 : ((K : Int) / 8).toNat = K / 8 := by omega
  have e2 : min (IntKind.u64.wrap ((K % 8 : Nat) : Int)).toNat 8 = K % 8 := by rw [wr64]; omega
  have hp := pow2_8 0 (K % 8) (by omega)
  have e3 : IntKind.u8.wrap (1 * 2 ^ (K % 8)) = ((2 ^ (K % 8) : Nat) : Int) := by
    rw [wr8, Int.one_mul, show (2 : Int) ^ (K % 8) = ((2 ^ (K % 8) : Nat) : Int) by push_cast; rfl]; clear e2; generalize 2 ^ (K % 8) = w at *; omega
  have e4 : (qL p X).getD (K / 8) default = (qL p X).getD (K / 8) 0 := rfl
  have hlt := xor_lt8 (UInt8.toNat_lt ((qL p X).getD (K / 8) 0)) hp
  rw [e1, e2, e3, e4, xor8 _ _ (UInt8.toNat_lt _) hp, ← qL_set (p := p) (X := X) h, List.map_set]
  congr 1
  unfold eB
  rw [u8n hlt]
set_option maxRecDepth 100000 in
set_option maxHeartbeats 4000000 in
theorem c31 (p : List UInt8) (bit : Int) (pat : Nat) (hl : p.length ≤ 9000000) (hb : -9223372036854775808 ≤ bit ∧ bit ≤ 9223372036854775807) (hp : pat < 4294967296) : PCalls Tryd.prog 31 [.view 1 (p.map eB), .v (.int .i64 bit), .v (.int .u32 pat)] (.view 1 ((qL p (xJ bit pat p.length 32)).map eB)) := by
  refine pcalls_facts ⟨_, rfl, rfl, by decide⟩ fun hf => ?_
  simp only [go_sem, big] at hf
  refine pcalls_of (E := E) (fn := Tryd.f31) 59 [.tmp 6] rfl rfl rfl rfl (by decide) rfl ?_
  have e0 : qL p (xJ bit pat p.length 0) = p := qL_0 p
  repeat' (first
    | (with_reducible first | refine r_seq ?_ | refine r_block ?_ | refine fork_not ?_ | refine fork_and ?_ | refine fork_or ?_ | refine chk_ok (by kernel_rfl) ?_)
    | ((with_reducible first | refine fork_dec ?_ ?_ | refine fork_eq ?_ ?_ | refine fork_ne ?_ ?_ | refine fork_intro ?_ ?_) <;> intro h)
    | ((with_reducible show False); omega)
    | ((first | (with_reducible first | refine r_exit ?_ | refine r_skip ?_ | refine r_cond ?_ | refine r_region ?_ | show VX _ _ _ _ _ _ _ | show vstep _ _ _ _ _ | show vskip _ _ _ | show withV _ _) | ((with_reducible show endA _ _ _ _ _ _ _); simp -implicitDefEqProofs only [endA])); simp -dsimp -implicitDefEqProofs (maxSteps := 1000000) (disch := first | omega | (simp only [LN, List.length_replicate, List.drop_replicate, List.length_map, Nat.sub_self, List.replicate_zero, List.append_nil]; omega)) only [go_sem, Int.reduceToNat, Int.reducePow, Nat.reducePow, Int.reduceAdd, Int.reduceMul, Int.reduceSub, Int.reduceNeg, Nat.reduceAdd, Nat.reduceMul, Nat.reduceSub, Nat.reduceEqDiff, Nat.reduceLT, Nat.reduceLeDiff, List.length_replicate, List.drop_replicate, List.length_map, Nat.sub_self, List.replicate_zero, List.append_nil])
    | ((first | (with_reducible refine r_ret ?_) | (with_reducible refine pick_viewG default (by first | omega | (simp only [LN, List.length_replicate, List.drop_replicate, List.length_map, Nat.sub_self, List.replicate_zero, List.append_nil]; omega)) (by first | omega | (simp only [LN, List.length_replicate, List.drop_replicate, List.length_map, Nat.sub_self, List.replicate_zero, List.append_nil]; omega)) ?_) | (with_reducible refine pick_own default (by first | omega | (simp only [LN, List.length_replicate, List.drop_replicate, List.length_map, Nat.sub_self, List.replicate_zero, List.append_nil]; omega)) ?_) | (with_reducible refine And.intro (by first | decide | omega | assumption | (simp only [LN, List.length_replicate, List.drop_replicate, List.length_map, Nat.sub_self, List.replicate_zero, List.append_nil]; omega)) ?_) | ((with_reducible show pickE _ _ _); first | refine pickE_intro _ ⟨by omega, by rfl⟩ ?_ | refine pickE_intro _ (by rfl) ?_) | fail); try simp -dsimp -implicitDefEqProofs (maxSteps := 1000000) (disch := first | omega | (simp only [LN, List.length_replicate, List.drop_replicate, List.length_map, Nat.sub_self, List.replicate_zero, List.append_nil]; omega)) only [go_sem, Int.reduceToNat, Int.reducePow, Nat.reducePow, Int.reduceAdd, Int.reduceMul, Int.reduceSub, Int.reduceNeg, Nat.reduceAdd, Nat.reduceMul, Nat.reduceSub, Nat.reduceEqDiff, Nat.reduceLT, Nat.reduceLeDiff, List.length_replicate, List.drop_replicate, List.length_map, Nat.sub_self, List.replicate_zero, List.append_nil])
    | fail)
  refine r_loopA (α := Nat) [1, 2, 7] (fun j b => [(16, aI j)]) (fun j b => [(7, .arr 1 ((qL p (xJ bit pat p.length j)).map eB))]) (fun j => []) (fun j => j ≤ 32) (fun j => 32 - j) (0) ?h0_2 ?hs0_2 ?I_2 ?hI_2 ?round_2
  case hI_2 => intro x; (simp -dsimp -implicitDefEqProofs (maxSteps := 1000000) (disch := first | omega | (simp only [LN]; omega)) only [go_sem, Int.reduceToNat, Int.reducePow, Nat.reducePow, Int.reduceAdd, Int.reduceMul, Int.reduceSub, Int.reduceNeg, Nat.reduceAdd, Nat.reduceMul, Nat.reduceSub, Nat.reduceEqDiff, Nat.reduceLT, Nat.reduceLeDiff]) <;> exact rfl
  case hs0_2 => refine wk_auto ?_; (simp -dsimp -implicitDefEqProofs (maxSteps := 1000000) (disch := first | omega | (simp only [LN, e0]; omega)) only [go_sem, Int.reduceToNat, Int.reducePow, Nat.reducePow, Int.reduceAdd, Int.reduceMul, Int.reduceSub, Int.reduceNeg, Nat.reduceAdd, Nat.reduceMul, Nat.reduceSub, Nat.reduceEqDiff, Nat.reduceLT, Nat.reduceLeDiff, e0]) <;> (try omega)
  case h0_2 => exact Nat.zero_le _
  case round_2 =>
    rintro j h1
    obtain ⟨q, hq⟩ : ∃ q, pat / 2 ^ j = q := ⟨_, rfl⟩
    have d1 := and1 q (hq ▸ pat_div pat j hp)
    obtain ⟨q2, hq2⟩ : ∃ q2, q % 2 = q2 := ⟨_, rfl⟩
    rw [hq2] at d1
    have d2 : IntKind.u64.wrap (j : Int) = (j : Int) := by rw [wr64]; omega
    have d3 : min j 32 = j := by omega
    have d4 : (pat : Int) / 2 ^ j = (q : Int) := by rw [← hq]; push_cast; rfl
    have d5 : ∀ x : Nat, ((x : Int) = 0) = (x = 0) := fun x => by simp
    have d6 := @tdiv8_pos bit
    have d7 := @tdiv8_neg bit
    by_cases hk : 0 ≤ bit + j
    · obtain ⟨K, eK⟩ := Int.eq_ofNat_of_zero_le hk
      have eK2 : (bit + j).toNat = K := by omega
      have hx := xj_succ bit pat p.length j
      rw [eK2] at hx
      have hc : cndJ bit pat p.length j = (decide (q2 = 1) && decide (K < 8 * p.length)) := by
        unfold cndJ
        rw [hq, hq2]
        congr 1
        simp only [decide_eq_decide]; omega
      rw [hc] at hx
      repeat' (first
        | (with_reducible first | refine r_seq ?_ | refine r_block ?_ | refine fork_not ?_ | refine fork_and ?_ | refine fork_or ?_ | refine chk_ok (by kernel_rfl) ?_)
        | ((with_reducible first | refine fork_dec ?_ ?_ | refine fork_eq ?_ ?_ | refine fork_ne ?_ ?_ | refine fork_intro ?_ ?_) <;> intro h <;> try (exfalso; first | omega | exact h rfl | (revert h; decide) | (cases h; done)))
        | ((with_reducible show False); omega)
        | ((first | (with_reducible first | refine r_exit ?_ | refine r_skip ?_ | refine r_cond ?_ | refine r_region ?_ | show VX _ _ _ _ _ _ _ | show vstep _ _ _ _ _ | show vskip _ _ _ | show withV _ _) | ((with_reducible show endA _ _ _ _ _ _ _); simp -implicitDefEqProofs only [endA])); simp -dsimp -implicitDefEqProofs (maxSteps := 1000000) (disch := first | omega | (simp only [LN, qL_len, d1, d2, d3, d4, eK, tdiv8n, tmod8n]; omega)) only [go_sem, Int.reduceToNat, Int.reducePow, Nat.reducePow, Int.reduceAdd, Int.reduceMul, Int.reduceSub, Int.reduceNeg, Nat.reduceAdd, Nat.reduceMul, Nat.reduceSub, Nat.reduceEqDiff, Nat.reduceLT, Nat.reduceLeDiff, qL_len, d1, d2, d3, d4, eK, tdiv8n, tmod8n])
        | ((first | (with_reducible refine r_ret ?_) | (with_reducible refine pick_viewG default (by first | omega | (simp only [LN, qL_len, d1, d2, d3, d4, eK, tdiv8n, tmod8n]; omega)) (by first | omega | (simp only [LN, qL_len, d1, d2, d3, d4, eK, tdiv8n, tmod8n]; omega)) ?_) | (with_reducible refine pick_own default (by first | omega | (simp only [LN, qL_len, d1, d2, d3, d4, eK, tdiv8n, tmod8n]; omega)) ?_) | (with_reducible refine And.intro (by first | decide | omega | assumption | (simp only [LN, qL_len, d1, d2, d3, d4, eK, tdiv8n, tmod8n]; omega)) ?_) | ((with_reducible show pickE _ _ _); first | refine pickE_intro _ ⟨by omega, by rfl⟩ ?_ | refine pickE_intro _ (by rfl) ?_) | fail); try simp -dsimp -implicitDefEqProofs (maxSteps := 1000000) (disch := first | omega | (simp only [LN, qL_len, d1, d2, d3, d4, eK, tdiv8n, tmod8n]; omega)) only [go_sem, Int.reduceToNat, Int.reducePow, Nat.reducePow, Int.reduceAdd, Int.reduceMul, Int.reduceSub, Int.reduceNeg, Nat.reduceAdd, Nat.reduceMul, Nat.reduceSub, Nat.reduceEqDiff, Nat.reduceLT, Nat.reduceLeDiff, qL_len, d1, d2, d3, d4, eK, tdiv8n, tmod8n])
        | fail)
      · rw [if_neg (by simp only [Bool.and_eq_true, decide_eq_true_iff]; omega)] at hx
        (refine loopQ_next (j + 1) ?_ ?_ ?_; (omega); (show _ < _; omega); (simp -dsimp -implicitDefEqProofs (maxSteps := 1000000) (disch := first | omega | (simp only [LN, hx]; omega)) only [go_sem, Int.reduceToNat, Int.reducePow, Nat.reducePow, Int.reduceAdd, Int.reduceMul, Int.reduceSub, Int.reduceNeg, Nat.reduceAdd, Nat.reduceMul, Nat.reduceSub, Nat.reduceEqDiff, Nat.reduceLT, Nat.reduceLeDiff, hx]; try trivial))
      · rw [if_neg (by simp only [Bool.and_eq_true, decide_eq_true_iff]; omega)] at hx
        (refine loopQ_next (j + 1) ?_ ?_ ?_; (omega); (show _ < _; omega); (simp -dsimp -implicitDefEqProofs (maxSteps := 1000000) (disch := first | omega | (simp only [LN, hx]; omega)) only [go_sem, Int.reduceToNat, Int.reducePow, Nat.reducePow, Int.reduceAdd, Int.reduceMul, Int.reduceSub, Int.reduceNeg, Nat.reduceAdd, Nat.reduceMul, Nat.reduceSub, Nat.reduceEqDiff, Nat.reduceLT, Nat.reduceLeDiff, hx]; try trivial))
      · rw [if_pos (by simp only [Bool.and_eq_true, decide_eq_true_iff]; omega)] at hx
        have hs := flip_step p (xJ bit pat p.length j) K (by omega)
        (refine loopQ_next (j + 1) ?_ ?_ ?_; (omega); (show _ < _; omega); (simp -dsimp -implicitDefEqProofs (maxSteps := 1000000) (disch := first | omega | (simp only [LN, hx, hs]; omega)) only [go_sem, Int.reduceToNat, Int.reducePow, Nat.reducePow, Int.reduceAdd, Int.reduceMul, Int.reduceSub, Int.reduceNeg, Nat.reduceAdd, Nat.reduceMul, Nat.reduceSub, Nat.reduceEqDiff, Nat.reduceLT, Nat.reduceLeDiff, hx, hs]; try trivial))
      · rw [if_neg (by simp only [Bool.and_eq_true, decide_eq_true_iff]; omega)] at hx
        (refine loopQ_next (j + 1) ?_ ?_ ?_; (omega); (show _ < _; omega); (simp -dsimp -implicitDefEqProofs (maxSteps := 1000000) (disch := first | omega | (simp only [LN, hx]; omega)) only [go_sem, Int.reduceToNat, Int.reducePow, Nat.reducePow, Int.reduceAdd, Int.reduceMul, Int.reduceSub, Int.reduceNeg, Nat.reduceAdd, Nat.reduceMul, Nat.reduceSub, Nat.reduceEqDiff, Nat.reduceLT, Nat.reduceLeDiff, hx]; try trivial))
      · rw [show j = 32 by omega]
    · have hx := xj_succ bit pat p.length j
      rw [if_neg (by unfold cndJ; simp only [Bool.and_eq_true, decide_eq_true_iff]; omega)] at hx
      repeat' (first
        | (with_reducible first | refine r_seq ?_ | refine r_block ?_ | refine fork_not ?_ | refine fork_and ?_ | refine fork_or ?_ | refine chk_ok (by kernel_rfl) ?_)
        | ((with_reducible first | refine fork_dec ?_ ?_ | refine fork_eq ?_ ?_ | refine fork_ne ?_ ?_ | refine fork_intro ?_ ?_) <;> intro h <;> try (exfalso; first | omega | exact h rfl | (revert h; decide) | (cases h; done)))
        | ((with_reducible show False); omega)
        | ((first | (with_reducible first | refine r_exit ?_ | refine r_skip ?_ | refine r_cond ?_ | refine r_region ?_ | show VX _ _ _ _ _ _ _ | show vstep _ _ _ _ _ | show vskip _ _ _ | show withV _ _) | ((with_reducible show endA _ _ _ _ _ _ _); simp -implicitDefEqProofs only [endA])); simp -dsimp -implicitDefEqProofs (maxSteps := 1000000) (disch := first | omega | (simp only [LN, qL_len, d1, d2, d3, d4]; omega)) only [go_sem, Int.reduceToNat, Int.reducePow, Nat.reducePow, Int.reduceAdd, Int.reduceMul, Int.reduceSub, Int.reduceNeg, Nat.reduceAdd, Nat.reduceMul, Nat.reduceSub, Nat.reduceEqDiff, Nat.reduceLT, Nat.reduceLeDiff, qL_len, d1, d2, d3, d4])
        | ((first | (with_reducible refine r_ret ?_) | (with_reducible refine pick_viewG default (by first | omega | (simp only [LN, qL_len, d1, d2, d3, d4]; omega)) (by first | omega | (simp only [LN, qL_len, d1, d2, d3, d4]; omega)) ?_) | (with_reducible refine pick_own default (by first | omega | (simp only [LN, qL_len, d1, d2, d3, d4]; omega)) ?_) | (with_reducible refine And.intro (by first | decide | omega | assumption | (simp only [LN, qL_len, d1, d2, d3, d4]; omega)) ?_) | ((with_reducible show pickE _ _ _); first | refine pickE_intro _ ⟨by omega, by rfl⟩ ?_ | refine pickE_intro _ (by rfl) ?_) | fail); try simp -dsimp -implicitDefEqProofs (maxSteps := 1000000) (disch := first | omega | (simp only [LN, qL_len, d1, d2, d3, d4]; omega)) only [go_sem, Int.reduceToNat, Int.reducePow, Nat.reducePow, Int.reduceAdd, Int.reduceMul, Int.reduceSub, Int.reduceNeg, Nat.reduceAdd, Nat.reduceMul, Nat.reduceSub, Nat.reduceEqDiff, Nat.reduceLT, Nat.reduceLeDiff, qL_len, d1, d2, d3, d4])
        | fail)
      · (refine loopQ_next (j + 1) ?_ ?_ ?_; (omega); (show _ < _; omega); (simp -dsimp -implicitDefEqProofs (maxSteps := 1000000) (disch := first | omega | (simp only [LN, hx]; omega)) only [go_sem, Int.reduceToNat, Int.reducePow, Nat.reducePow, Int.reduceAdd, Int.reduceMul, Int.reduceSub, Int.reduceNeg, Nat.reduceAdd, Nat.reduceMul, Nat.reduceSub, Nat.reduceEqDiff, Nat.reduceLT, Nat.reduceLeDiff, hx]; try trivial))
      · (refine loopQ_next (j + 1) ?_ ?_ ?_; (omega); (show _ < _; omega); (simp -dsimp -implicitDefEqProofs (maxSteps := 1000000) (disch := first | omega | (simp only [LN, hx]; omega)) only [go_sem, Int.reduceToNat, Int.reducePow, Nat.reducePow, Int.reduceAdd, Int.reduceMul, Int.reduceSub, Int.reduceNeg, Nat.reduceAdd, Nat.reduceMul, Nat.reduceSub, Nat.reduceEqDiff, Nat.reduceLT, Nat.reduceLeDiff, hx]; try trivial))
      · rw [show j = 32 by omega]
theorem whole_len2 (p : List UInt8) : (wholeM p).length ≤ 2560 ∧ (wholeM p).length % 64 = 0 := by
  rw [wholeM, List.length_take]; omega
theorem sum_ne {p q : List UInt8} (h : upN 4294967295 p ≠ upN 4294967295 q) : ¬ sumN 0 p = sumN 0 q := by
  have h1 := upN_lt p (r := 4294967295) (by decide)
  have h2 := upN_lt q (r := 4294967295) (by decide)
  have e : 4294967295 - 0 = 4294967295 := rfl
  unfold sumN
  rw [e]
  omega
attribute [local irreducible] newM newE
set_option maxRecDepth 100000 in
set_option maxHeartbeats 4000000 in
theorem c8 (p0 : List UInt8) (bit : Int) (pat : Nat) (hb : -9223372036854775808 ≤ bit ∧ bit ≤ 9223372036854775807) (hp : pat < 4294967296) : PCalls Tryd.prog 8 [.view 1 (p0.map eB), .v (.int .i64 bit), .v (.int .u32 pat)] (.v (.bool true)) := by
  refine pcalls_facts ⟨_, rfl, rfl, by decide⟩ fun hf => ?_
  simp only [go_sem, big] at hf
  refine pcalls_of (E := E) (fn := Tryd.f8) 58 [.tmp 6] rfl rfl rfl rfl (by decide) rfl ?_
  have k18 := c18 p0
  obtain ⟨hl, h64⟩ := whole_len2 p0
  generalize wholeM p0 = p at *
  have k31 := c31 p bit pat (by omega) hb hp
  have hlaw := burst_ne p bit pat 4294967295
  have hql := qL_len p (xJ bit pat p.length 32)
  generalize qL p (xJ bit pat p.length 32) = q at *
  have e1 := new_ok h64 (by omega)
  have e2 := newE_ok h64 (by omega)
  have e3 := new_ok (p := q) (by omega) (by omega)
  have e4 := newE_ok (p := q) (by omega) (by omega)
  rcases hlaw with rfl | hne
  · repeat' (first
      | (with_reducible first | refine r_seq ?_ | refine r_block ?_ | refine fork_not ?_ | refine fork_and ?_ | refine fork_or ?_ | refine chk_ok (by kernel_rfl) ?_)
      | ((with_reducible first | refine fork_dec ?_ ?_ | refine fork_eq ?_ ?_ | refine fork_ne ?_ ?_ | refine fork_intro ?_ ?_) <;> intro h <;> try (exfalso; first | omega | exact h rfl | (revert h; decide) | (cases h; done)))
      | ((with_reducible show False); omega)
      | ((first | (with_reducible first | refine r_exit ?_ | refine r_skip ?_ | refine r_cond ?_ | refine r_region ?_ | show VX _ _ _ _ _ _ _ | show vstep _ _ _ _ _ | show vskip _ _ _ | show withV _ _) | ((with_reducible show endA _ _ _ _ _ _ _); simp -implicitDefEqProofs only [endA])); simp -dsimp -implicitDefEqProofs (maxSteps := 1000000) (disch := first | omega | (simp only [LN, e3, e4]; omega)) only [go_sem, Int.reduceToNat, Int.reducePow, Nat.reducePow, Int.reduceAdd, Int.reduceMul, Int.reduceSub, Int.reduceNeg, Nat.reduceAdd, Nat.reduceMul, Nat.reduceSub, Nat.reduceEqDiff, Nat.reduceLT, Nat.reduceLeDiff, e3, e4])
      | ((first | (with_reducible refine r_ret ?_) | (with_reducible refine pick_viewG default (by first | omega | (simp only [LN, e3, e4]; omega)) (by first | omega | (simp only [LN, e3, e4]; omega)) ?_) | (with_reducible refine pick_own default (by first | omega | (simp only [LN, e3, e4]; omega)) ?_) | (with_reducible refine And.intro (by first | decide | omega | assumption | (simp only [LN, e3, e4]; omega)) ?_) | ((with_reducible apply callK_pure); (first | exact c13 | exact k18 | exact c14 q | exact k31 | exact c32 q (by omega) | exact c33 q (by omega) | exact c21 q q | fail)) | ((with_reducible apply callF_lend); (first | exact c13 | exact k18 | exact c14 q | exact k31 | exact c32 q (by omega) | exact c33 q (by omega) | exact c21 q q | fail); rfl) | ((with_reducible apply callF_go); (first | exact c13 | exact k18 | exact c14 q | exact k31 | exact c32 q (by omega) | exact c33 q (by omega) | exact c21 q q | fail)) | ((with_reducible show pickE _ _ _); first | refine pickE_intro _ ⟨by omega, by rfl⟩ ?_ | refine pickE_intro _ (by rfl) ?_) | fail); try simp -dsimp -implicitDefEqProofs (maxSteps := 1000000) (disch := first | omega | (simp only [LN, e3, e4]; omega)) only [go_sem, Int.reduceToNat, Int.reducePow, Nat.reducePow, Int.reduceAdd, Int.reduceMul, Int.reduceSub, Int.reduceNeg, Nat.reduceAdd, Nat.reduceMul, Nat.reduceSub, Nat.reduceEqDiff, Nat.reduceLT, Nat.reduceLeDiff, e3, e4])
      | fail)
  · have hs := sum_ne hne
    have hs' : ¬ ((sumN 0 p : Nat) : Int) = (sumN 0 q : Nat) := by omega
    have hpq : ¬ p = q := by rintro rfl; exact hne rfl
    repeat' (first
      | (with_reducible first | refine r_seq ?_ | refine r_block ?_ | refine fork_not ?_ | refine fork_and ?_ | refine fork_or ?_ | refine chk_ok (by kernel_rfl) ?_)
      | ((with_reducible first | refine fork_dec ?_ ?_ | refine fork_eq ?_ ?_ | refine fork_ne ?_ ?_ | refine fork_intro ?_ ?_) <;> intro h <;> try (exfalso; first | omega | exact h rfl | (revert h; decide) | (cases h; done)))
      | ((with_reducible show False); omega)
      | ((first | (with_reducible first | refine r_exit ?_ | refine r_skip ?_ | refine r_cond ?_ | refine r_region ?_ | show VX _ _ _ _ _ _ _ | show vstep _ _ _ _ _ | show vskip _ _ _ | show withV _ _) | ((with_reducible show endA _ _ _ _ _ _ _); simp -implicitDefEqProofs only [endA])); simp -dsimp -implicitDefEqProofs (maxSteps := 1000000) (disch := first | omega | (simp only [LN, e1, e2, e3, e4, hpq, hs']; omega)) only [go_sem, Int.reduceToNat, Int.reducePow, Nat.reducePow, Int.reduceAdd, Int.reduceMul, Int.reduceSub, Int.reduceNeg, Nat.reduceAdd, Nat.reduceMul, Nat.reduceSub, Nat.reduceEqDiff, Nat.reduceLT, Nat.reduceLeDiff, e1, e2, e3, e4, hpq, hs'])
      | ((first | (with_reducible refine r_ret ?_) | (with_reducible refine pick_viewG default (by first | omega | (simp only [LN, e1, e2, e3, e4, hpq, hs']; omega)) (by first | omega | (simp only [LN, e1, e2, e3, e4, hpq, hs']; omega)) ?_) | (with_reducible refine pick_own default (by first | omega | (simp only [LN, e1, e2, e3, e4, hpq, hs']; omega)) ?_) | (with_reducible refine And.intro (by first | decide | omega | assumption | (simp only [LN, e1, e2, e3, e4, hpq, hs']; omega)) ?_) | ((with_reducible apply callK_pure); (first | exact c13 | exact k18 | exact c14 p | exact k31 | exact c14 q | exact c32 p (by omega) | exact c33 p (by omega) | exact c32 q (by omega) | exact c33 q (by omega) | exact c21 p q | fail)) | ((with_reducible apply callF_lend); (first | exact c13 | exact k18 | exact c14 p | exact k31 | exact c14 q | exact c32 p (by omega) | exact c33 p (by omega) | exact c32 q (by omega) | exact c33 q (by omega) | exact c21 p q | fail); rfl) | ((with_reducible apply callF_go); (first | exact c13 | exact k18 | exact c14 p | exact k31 | exact c14 q | exact c32 p (by omega) | exact c33 p (by omega) | exact c32 q (by omega) | exact c33 q (by omega) | exact c21 p q | fail)) | ((with_reducible show pickE _ _ _); first | refine pickE_intro _ ⟨by omega, by rfl⟩ ?_ | refine pickE_intro _ (by rfl) ?_) | fail); try simp -dsimp -implicitDefEqProofs (maxSteps := 1000000) (disch := first | omega | (simp only [LN, e1, e2, e3, e4, hpq, hs']; omega)) only [go_sem, Int.reduceToNat, Int.reducePow, Nat.reducePow, Int.reduceAdd, Int.reduceMul, Int.reduceSub, Int.reduceNeg, Nat.reduceAdd, Nat.reduceMul, Nat.reduceSub, Nat.reduceEqDiff, Nat.reduceLT, Nat.reduceLeDiff, e1, e2, e3, e4, hpq, hs'])
      | fail)
    rw [show ((sumN 0 p : Int) != (sumN 0 q : Int)) = true from bne_iff_ne.2 hs']
end Go.Proofs.YtcnbngflehiphaaDoor
