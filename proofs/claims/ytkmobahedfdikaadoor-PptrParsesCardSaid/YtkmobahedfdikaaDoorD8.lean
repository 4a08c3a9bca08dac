/- Contracts of functions of this program, and the plain facts that they rest on. No conditions. -/
import Derived.Test.YtkmobahedfdikaaDoorD7
set_option linter.unusedSimpArgs false
set_option linter.unusedVariables false
namespace Go.Proofs.YtkmobahedfdikaaDoor
open Go Go.Ab
attribute [local irreducible] callK callF loopQ vstep vskip pickE hideP
open Go.RowKit
set_option maxRecDepth 100000
attribute [local go_sem] toList_bs ext_bs beq_dec bs_size bs_list bs_inj app_bs byteAt_bs errP
/-! The text of a word that is no pointer. -/
def hexS : List UInt8 := [48, 49, 50, 51, 52, 53, 54, 55, 56, 57, 97, 98, 99, 100, 101, 102]
def hexI (p : Int) (k : Nat) : Nat := (p / 2 ^ (60 - 4 * k) % 16).toNat
theorem hexI_lt (p : Int) (k : Nat) : hexI p k < 16 := by unfold hexI; omega
def hexTo (p : Int) : Nat → List UInt8
  | 0 => []
  | k + 1 => hexTo p k ++ [hexS.getD (hexI p k) 0]
theorem hexTo_len (p : Int) : ∀ k, (hexTo p k).length = k
  | 0 => rfl
  | k + 1 => by simp [hexTo, hexTo_len p k]
theorem hexTo_s (p : Int) (k : Nat) : hexTo p (k + 1) = hexTo p k ++ [hexS.getD (hexI p k) 0] := rfl
def bT (p : Int) (k : Nat) : List UInt8 := 48 :: 120 :: hexTo p k
theorem bT_s (p : Int) (k : Nat) : bT p (k + 1) = bT p k ++ [hexS.getD (hexI p k) 0] := rfl
theorem bT_len (p : Int) (k : Nat) : (bT p k).length = k + 2 := by simp [bT, hexTo_len]
theorem bT_0 (p : Int) : (bT p 0).map eB = [.v (.int .u8 48), .v (.int .u8 120)] := rfl
theorem bT_00 (p : Int) : bT p 0 = [48, 120] := rfl
def badT (p : Int) : List UInt8 := bT p 16
theorem and15 {x : Int} (h : 0 ≤ x) : (BitVec.ofInt 64 x &&& BitVec.ofInt 64 15).toNat = (x % 16).toNat := by
  obtain ⟨n, rfl⟩ := Int.eq_ofNat_of_zero_le h
  rw [BitVec.toNat_and, BitVec.ofInt_natCast, BitVec.toNat_ofNat, show (BitVec.ofInt 64 15).toNat = 2 ^ 4 - 1 by decide, Nat.and_two_pow_sub_one_eq_mod]
  omega
theorem hexE {p : Int} (h0 : 0 ≤ p) {k : Nat} (hk : k ≤ 15) : IntKind.u64.wrap (((BitVec.ofInt IntKind.u64.bits (p / 2 ^ (60 - 4 * k)) &&& BitVec.ofInt IntKind.u64.bits 15).toNat : Nat) : Int) = (hexI p k : Int) := by
  have hx : 0 ≤ p / 2 ^ (60 - 4 * k) := by
    have e : (2 : Int) ^ (60 - 4 * k) = ((2 ^ (60 - 4 * k) : Nat) : Int) := by push_cast; rfl
    have := Nat.two_pow_pos (60 - 4 * k)
    exact Int.ediv_nonneg h0 (by omega)
  show IntKind.u64.wrap (((BitVec.ofInt 64 (p / 2 ^ (60 - 4 * k)) &&& BitVec.ofInt 64 15).toNat : Nat) : Int) = _
  rw [and15 hx]
  unfold hexI
  rw [wr64]; omega
theorem hex_one : ∀ n : Nat, n < 16 → List.take (n + 1 - n) (List.drop n [48, 49, 50, 51, 52, 53, 54, 55, 56, 57, 97, 98, 99, 100, 101, 102]) = [hexS.getD n 0] := by decide
theorem hexN1 {k : Nat} (hk : k ≤ 15) : min (IntKind.u64.wrap (60 - 4 * (k : Int))).toNat 64 = 60 - 4 * k := by rw [wr64]; omega
theorem hexN2 {k : Nat} (hk : k ≤ 15) : (60 - 4 * (k : Int)).toNat = 60 - 4 * k := by omega
attribute [local irreducible] hexI hexTo bT
set_option maxRecDepth 100000 in
set_option maxHeartbeats 4000000 in
theorem c27b (p : Int) (h0 : 0 ≤ p) (h1 : p ≤ 18446744073709551615) (hp : ¬ p = 0) (hf : formedM p = false) : PCalls Tryd.prog 27 [.v (.int .u64 p)] (.v (.string (bs (badT p)))) := by
  refine pcalls_of (E := E) (fn := Tryd.f27) 48 [.tmp 2] rfl rfl rfl rfl (by decide) rfl ?_
  repeat' (first
    | (with_reducible first | refine r_seq ?_ | refine r_block ?_ | refine fork_not ?_ | refine fork_and ?_ | refine fork_or ?_ | refine chk_ok (by kernel_rfl) ?_)
    | ((with_reducible first | refine fork_dec ?_ ?_ | refine fork_eq ?_ ?_ | refine fork_ne ?_ ?_ | refine fork_intro ?_ ?_) <;> intro h)
    | ((with_reducible show False); omega)
    | ((first | (with_reducible first | refine r_exit ?_ | refine r_skip ?_ | refine r_cond ?_ | refine r_region ?_ | show VX _ _ _ _ _ _ _ | show vstep _ _ _ _ _ | show vskip _ _ _ | show withV _ _) | ((with_reducible show endA _ _ _ _ _ _ _); simp -implicitDefEqProofs only [endA])); simp -dsimp -implicitDefEqProofs (maxSteps := 1000000) (disch := first | omega | (simp only [LN, hf, hp]; omega)) only [go_sem, Int.reduceToNat, Int.reducePow, Nat.reducePow, Int.reduceAdd, Int.reduceMul, Int.reduceSub, Int.reduceNeg, Nat.reduceAdd, Nat.reduceMul, Nat.reduceSub, Nat.reduceEqDiff, Nat.reduceLT, Nat.reduceLeDiff, hf, hp])
    | ((first | (with_reducible refine r_ret ?_) | (with_reducible refine pick_viewG default (by first | omega | (simp only [LN, hf, hp]; omega)) (by first | omega | (simp only [LN, hf, hp]; omega)) ?_) | (with_reducible refine pick_own default (by first | omega | (simp only [LN, hf, hp]; omega)) ?_) | (with_reducible refine And.intro (by first | decide | omega | assumption | (simp only [LN, hf, hp]; omega)) ?_) | ((with_reducible apply callK_pure); (first | exact c21 p | exact c31 p h0 | fail)) | ((with_reducible apply callF_lend); (first | exact c21 p | exact c31 p h0 | fail); rfl) | ((with_reducible apply callF_go); (first | exact c21 p | exact c31 p h0 | fail)) | ((with_reducible show pickE _ _ _); first | refine pickE_intro _ ⟨by omega, by rfl⟩ ?_ | refine pickE_intro _ (by rfl) ?_) | fail); try simp -dsimp -implicitDefEqProofs (maxSteps := 1000000) (disch := first | omega | (simp only [LN, hf, hp]; omega)) only [go_sem, Int.reduceToNat, Int.reducePow, Nat.reducePow, Int.reduceAdd, Int.reduceMul, Int.reduceSub, Int.reduceNeg, Nat.reduceAdd, Nat.reduceMul, Nat.reduceSub, Nat.reduceEqDiff, Nat.reduceLT, Nat.reduceLeDiff, hf, hp])
    | fail)
  refine r_loopA (α := Nat) [0] (fun k b => [(3, .sl b 1 0 (k + 2)), (4, aI (60 - 4 * (k : Int)))]) (fun k b => []) (fun k => [.arr 1 ((bT p k).map eB)]) (fun k => k ≤ 16) (fun k => 16 - k) (0) ?h0_1 ?hs0_1 ?I_1 ?hI_1 ?round_1
  case hI_1 => intro x; (simp -dsimp -implicitDefEqProofs (maxSteps := 1000000) (disch := first | omega | (simp only [LN]; omega)) only [go_sem, Int.reduceToNat, Int.reducePow, Nat.reducePow, Int.reduceAdd, Int.reduceMul, Int.reduceSub, Int.reduceNeg, Nat.reduceAdd, Nat.reduceMul, Nat.reduceSub, Nat.reduceEqDiff, Nat.reduceLT, Nat.reduceLeDiff]) <;> exact rfl
  case hs0_1 => refine wk_auto ?_; (simp -dsimp -implicitDefEqProofs (maxSteps := 1000000) (disch := first | omega | (simp only [LN, bT_0]; omega)) only [go_sem, Int.reduceToNat, Int.reducePow, Nat.reducePow, Int.reduceAdd, Int.reduceMul, Int.reduceSub, Int.reduceNeg, Nat.reduceAdd, Nat.reduceMul, Nat.reduceSub, Nat.reduceEqDiff, Nat.reduceLT, Nat.reduceLeDiff, bT_0]) <;> (try omega)
  case h0_1 => exact Nat.zero_le _
  case round_1 =>
    intro k hk
    have hl := bT_len p k
    by_cases hk2 : k ≤ 15
    · have e1 := hexN1 hk2
      have e2 := hexE h0 hk2
      have e3 := hexI_lt p k
      have e4 := bT_s p k
      have hjn : 60 - 4 * (k : Int) - 4 = 60 - 4 * ((k : Int) + 1) := by omega
      repeat' (first
        | (with_reducible first | refine r_seq ?_ | refine r_block ?_ | refine fork_not ?_ | refine fork_and ?_ | refine fork_or ?_ | refine chk_ok (by kernel_rfl) ?_)
        | ((with_reducible first | refine fork_dec ?_ ?_ | refine fork_eq ?_ ?_ | refine fork_ne ?_ ?_ | refine fork_intro ?_ ?_) <;> intro h <;> try (exfalso; first | omega | exact h rfl | (revert h; decide) | (cases h; done)))
        | ((with_reducible show False); omega)
        | ((first | (with_reducible first | refine r_exit ?_ | refine r_skip ?_ | refine r_cond ?_ | refine r_region ?_ | show VX _ _ _ _ _ _ _ | show vstep _ _ _ _ _ | show vskip _ _ _ | show withV _ _) | ((with_reducible show endA _ _ _ _ _ _ _); simp -implicitDefEqProofs only [endA])); simp -dsimp -implicitDefEqProofs (maxSteps := 1000000) (disch := first | omega | (simp only [LN, hl, e1, e2]; omega)) only [go_sem, Int.reduceToNat, Int.reducePow, Nat.reducePow, Int.reduceAdd, Int.reduceMul, Int.reduceSub, Int.reduceNeg, Nat.reduceAdd, Nat.reduceMul, Nat.reduceSub, Nat.reduceEqDiff, Nat.reduceLT, Nat.reduceLeDiff, hl, e1, e2])
        | ((first | (with_reducible refine r_ret ?_) | (with_reducible refine pick_viewG default (by first | omega | (simp only [LN, hl, e1, e2]; omega)) (by first | omega | (simp only [LN, hl, e1, e2]; omega)) ?_) | (with_reducible refine pick_own default (by first | omega | (simp only [LN, hl, e1, e2]; omega)) ?_) | (with_reducible refine And.intro (by first | decide | omega | assumption | (simp only [LN, hl, e1, e2]; omega)) ?_) | ((with_reducible show pickE _ _ _); first | refine pickE_intro _ ⟨by omega, by rfl⟩ ?_ | refine pickE_intro _ (by rfl) ?_) | fail); try simp -dsimp -implicitDefEqProofs (maxSteps := 1000000) (disch := first | omega | (simp only [LN, hl, e1, e2]; omega)) only [go_sem, Int.reduceToNat, Int.reducePow, Nat.reducePow, Int.reduceAdd, Int.reduceMul, Int.reduceSub, Int.reduceNeg, Nat.reduceAdd, Nat.reduceMul, Nat.reduceSub, Nat.reduceEqDiff, Nat.reduceLT, Nat.reduceLeDiff, hl, e1, e2])
        | fail)
      all_goals first | omega | (refine loopQ_next (k + 1) ?_ ?_ ?_; (omega); (show _ < _; omega); (simp -dsimp -implicitDefEqProofs (maxSteps := 1000000) (disch := first | omega | (simp only [LN, e4, List.map_append, List.map_cons, List.map_nil, hjn, hl, hexS]; omega)) only [go_sem, Int.reduceToNat, Int.reducePow, Nat.reducePow, Int.reduceAdd, Int.reduceMul, Int.reduceSub, Int.reduceNeg, Nat.reduceAdd, Nat.reduceMul, Nat.reduceSub, Nat.reduceEqDiff, Nat.reduceLT, Nat.reduceLeDiff, e4, List.map_append, List.map_cons, List.map_nil, hjn, hl, hexS]; try trivial)) | trace_state
    · obtain rfl : k = 16 := by omega
      repeat' (first
        | (with_reducible first | refine r_seq ?_ | refine r_block ?_ | refine fork_not ?_ | refine fork_and ?_ | refine fork_or ?_ | refine chk_ok (by kernel_rfl) ?_)
        | ((with_reducible first | refine fork_dec ?_ ?_ | refine fork_eq ?_ ?_ | refine fork_ne ?_ ?_ | refine fork_intro ?_ ?_) <;> intro h <;> try (exfalso; first | omega | exact h rfl | (revert h; decide) | (cases h; done)))
        | ((with_reducible show False); omega)
        | ((first | (with_reducible first | refine r_exit ?_ | refine r_skip ?_ | refine r_cond ?_ | refine r_region ?_ | show VX _ _ _ _ _ _ _ | show vstep _ _ _ _ _ | show vskip _ _ _ | show withV _ _) | ((with_reducible show endA _ _ _ _ _ _ _); simp -implicitDefEqProofs only [endA])); simp -dsimp -implicitDefEqProofs (maxSteps := 1000000) (disch := first | omega | (simp only [LN, hl]; omega)) only [go_sem, Int.reduceToNat, Int.reducePow, Nat.reducePow, Int.reduceAdd, Int.reduceMul, Int.reduceSub, Int.reduceNeg, Nat.reduceAdd, Nat.reduceMul, Nat.reduceSub, Nat.reduceEqDiff, Nat.reduceLT, Nat.reduceLeDiff, hl])
        | ((first | (with_reducible refine r_ret ?_) | (with_reducible refine pick_viewG default (by first | omega | (simp only [LN, hl]; omega)) (by first | omega | (simp only [LN, hl]; omega)) ?_) | (with_reducible refine pick_own default (by first | omega | (simp only [LN, hl]; omega)) ?_) | (with_reducible refine And.intro (by first | decide | omega | assumption | (simp only [LN, hl]; omega)) ?_) | ((with_reducible show pickE _ _ _); first | refine pickE_intro _ ⟨by omega, by rfl⟩ ?_ | refine pickE_intro _ (by rfl) ?_) | fail); try simp -dsimp -implicitDefEqProofs (maxSteps := 1000000) (disch := first | omega | (simp only [LN, hl]; omega)) only [go_sem, Int.reduceToNat, Int.reducePow, Nat.reducePow, Int.reduceAdd, Int.reduceMul, Int.reduceSub, Int.reduceNeg, Nat.reduceAdd, Nat.reduceMul, Nat.reduceSub, Nat.reduceEqDiff, Nat.reduceLT, Nat.reduceLeDiff, hl])
        | fail)
      all_goals first | rfl | omega | trace_state
set_option maxRecDepth 100000 in
set_option maxHeartbeats 4000000 in
theorem c29b (p : Int) (h0 : 0 ≤ p) (h1 : p ≤ 18446744073709551615) (hp : ¬ p = 0) (hf : formedM p = false) : PCalls Tryd.prog 29 [.v (.int .u64 p)] (.v (.string (bs (badT p)))) := by
  refine pcalls_of (E := E) (fn := Tryd.f29) 41 [.tmp 2] rfl rfl rfl rfl (by decide) rfl ?_
  repeat' (first
    | (with_reducible first | refine r_seq ?_ | refine r_block ?_ | refine fork_not ?_ | refine fork_and ?_ | refine fork_or ?_ | refine chk_ok (by kernel_rfl) ?_)
    | ((with_reducible first | refine fork_dec ?_ ?_ | refine fork_eq ?_ ?_ | refine fork_ne ?_ ?_ | refine fork_intro ?_ ?_) <;> intro h <;> try (exfalso; first | omega | exact h rfl | (revert h; decide) | (cases h; done)))
    | ((with_reducible show False); omega)
    | ((first | (with_reducible first | refine r_exit ?_ | refine r_skip ?_ | refine r_cond ?_ | refine r_region ?_ | show VX _ _ _ _ _ _ _ | show vstep _ _ _ _ _ | show vskip _ _ _ | show withV _ _) | ((with_reducible show endA _ _ _ _ _ _ _); simp -implicitDefEqProofs only [endA])); simp -dsimp -implicitDefEqProofs (maxSteps := 1000000) (disch := first | omega | (simp only [LN, hf, hp]; omega)) only [go_sem, Int.reduceToNat, Int.reducePow, Nat.reducePow, Int.reduceAdd, Int.reduceMul, Int.reduceSub, Int.reduceNeg, Nat.reduceAdd, Nat.reduceMul, Nat.reduceSub, Nat.reduceEqDiff, Nat.reduceLT, Nat.reduceLeDiff, hf, hp])
    | ((first | (with_reducible refine r_ret ?_) | (with_reducible refine pick_viewG default (by first | omega | (simp only [LN, hf, hp]; omega)) (by first | omega | (simp only [LN, hf, hp]; omega)) ?_) | (with_reducible refine pick_own default (by first | omega | (simp only [LN, hf, hp]; omega)) ?_) | (with_reducible refine And.intro (by first | decide | omega | assumption | (simp only [LN, hf, hp]; omega)) ?_) | ((with_reducible apply callK_pure); (exact c25 p h0)) | ((with_reducible apply callF_lend); (exact c25 p h0); rfl) | ((with_reducible apply callF_go); (exact c25 p h0)) | ((with_reducible show pickE _ _ _); first | refine pickE_intro _ ⟨by omega, by rfl⟩ ?_ | refine pickE_intro _ (by rfl) ?_) | fail); try simp -dsimp -implicitDefEqProofs (maxSteps := 1000000) (disch := first | omega | (simp only [LN, hf, hp]; omega)) only [go_sem, Int.reduceToNat, Int.reducePow, Nat.reducePow, Int.reduceAdd, Int.reduceMul, Int.reduceSub, Int.reduceNeg, Nat.reduceAdd, Nat.reduceMul, Nat.reduceSub, Nat.reduceEqDiff, Nat.reduceLT, Nat.reduceLeDiff, hf, hp])
    | fail)
  refine r_loopA (α := Nat) [0] (fun k b => [(3, .p (.v (.string (bs (bT p k))))), (4, aI (60 - 4 * (k : Int)))]) (fun k b => []) (fun k => []) (fun k => k ≤ 16) (fun k => 16 - k) (0) ?h0_2 ?hs0_2 ?I_2 ?hI_2 ?round_2
  case hI_2 => intro x; (simp -dsimp -implicitDefEqProofs (maxSteps := 1000000) (disch := first | omega | (simp only [LN]; omega)) only [go_sem, Int.reduceToNat, Int.reducePow, Nat.reducePow, Int.reduceAdd, Int.reduceMul, Int.reduceSub, Int.reduceNeg, Nat.reduceAdd, Nat.reduceMul, Nat.reduceSub, Nat.reduceEqDiff, Nat.reduceLT, Nat.reduceLeDiff]) <;> exact rfl
  case hs0_2 => refine wk_auto ?_; (simp -dsimp -implicitDefEqProofs (maxSteps := 1000000) (disch := first | omega | (simp only [LN, bT_00]; omega)) only [go_sem, Int.reduceToNat, Int.reducePow, Nat.reducePow, Int.reduceAdd, Int.reduceMul, Int.reduceSub, Int.reduceNeg, Nat.reduceAdd, Nat.reduceMul, Nat.reduceSub, Nat.reduceEqDiff, Nat.reduceLT, Nat.reduceLeDiff, bT_00]) <;> (try omega)
  case h0_2 => exact Nat.zero_le _
  case round_2 =>
    intro k hk
    have hl := bT_len p k
    by_cases hk2 : k ≤ 15
    · have e1 := hexN2 hk2
      have e2 := hexE h0 hk2
      have e3 := hexI_lt p k
      have e4 := bT_s p k
      have e5 := hex_one _ e3
      have hjn : 60 - 4 * (k : Int) - 4 = 60 - 4 * ((k : Int) + 1) := by omega
      repeat' (first
        | (with_reducible first | refine r_seq ?_ | refine r_block ?_ | refine fork_not ?_ | refine fork_and ?_ | refine fork_or ?_ | refine chk_ok (by kernel_rfl) ?_)
        | ((with_reducible first | refine fork_dec ?_ ?_ | refine fork_eq ?_ ?_ | refine fork_ne ?_ ?_ | refine fork_intro ?_ ?_) <;> intro h <;> try (exfalso; first | omega | exact h rfl | (revert h; decide) | (cases h; done)))
        | ((with_reducible show False); omega)
        | ((first | (with_reducible first | refine r_exit ?_ | refine r_skip ?_ | refine r_cond ?_ | refine r_region ?_ | show VX _ _ _ _ _ _ _ | show vstep _ _ _ _ _ | show vskip _ _ _ | show withV _ _) | ((with_reducible show endA _ _ _ _ _ _ _); simp -implicitDefEqProofs only [endA])); simp -dsimp -implicitDefEqProofs (maxSteps := 1000000) (disch := first | omega | (simp only [LN, hl, e1, e2]; omega)) only [go_sem, Int.reduceToNat, Int.reducePow, Nat.reducePow, Int.reduceAdd, Int.reduceMul, Int.reduceSub, Int.reduceNeg, Nat.reduceAdd, Nat.reduceMul, Nat.reduceSub, Nat.reduceEqDiff, Nat.reduceLT, Nat.reduceLeDiff, hl, e1, e2])
        | ((first | (with_reducible refine r_ret ?_) | (with_reducible refine pick_viewG default (by first | omega | (simp only [LN, hl, e1, e2]; omega)) (by first | omega | (simp only [LN, hl, e1, e2]; omega)) ?_) | (with_reducible refine pick_own default (by first | omega | (simp only [LN, hl, e1, e2]; omega)) ?_) | (with_reducible refine And.intro (by first | decide | omega | assumption | (simp only [LN, hl, e1, e2]; omega)) ?_) | ((with_reducible show pickE _ _ _); first | refine pickE_intro _ ⟨by omega, by rfl⟩ ?_ | refine pickE_intro _ (by rfl) ?_) | fail); try simp -dsimp -implicitDefEqProofs (maxSteps := 1000000) (disch := first | omega | (simp only [LN, hl, e1, e2]; omega)) only [go_sem, Int.reduceToNat, Int.reducePow, Nat.reducePow, Int.reduceAdd, Int.reduceMul, Int.reduceSub, Int.reduceNeg, Nat.reduceAdd, Nat.reduceMul, Nat.reduceSub, Nat.reduceEqDiff, Nat.reduceLT, Nat.reduceLeDiff, hl, e1, e2])
        | fail)
      all_goals first | omega | (refine loopQ_next (k + 1) ?_ ?_ ?_; (omega); (show _ < _; omega); (simp -dsimp -implicitDefEqProofs (maxSteps := 1000000) (disch := first | omega | (simp only [LN, e4, e5, hjn]; omega)) only [go_sem, Int.reduceToNat, Int.reducePow, Nat.reducePow, Int.reduceAdd, Int.reduceMul, Int.reduceSub, Int.reduceNeg, Nat.reduceAdd, Nat.reduceMul, Nat.reduceSub, Nat.reduceEqDiff, Nat.reduceLT, Nat.reduceLeDiff, e4, e5, hjn]; try trivial)) | trace_state
    · obtain rfl : k = 16 := by omega
      repeat' (first
        | (with_reducible first | refine r_seq ?_ | refine r_block ?_ | refine fork_not ?_ | refine fork_and ?_ | refine fork_or ?_ | refine chk_ok (by kernel_rfl) ?_)
        | ((with_reducible first | refine fork_dec ?_ ?_ | refine fork_eq ?_ ?_ | refine fork_ne ?_ ?_ | refine fork_intro ?_ ?_) <;> intro h <;> try (exfalso; first | omega | exact h rfl | (revert h; decide) | (cases h; done)))
        | ((with_reducible show False); omega)
        | ((first | (with_reducible first | refine r_exit ?_ | refine r_skip ?_ | refine r_cond ?_ | refine r_region ?_ | show VX _ _ _ _ _ _ _ | show vstep _ _ _ _ _ | show vskip _ _ _ | show withV _ _) | ((with_reducible show endA _ _ _ _ _ _ _); simp -implicitDefEqProofs only [endA])); simp -dsimp -implicitDefEqProofs (maxSteps := 1000000) (disch := first | omega | (simp only [LN, hl]; omega)) only [go_sem, Int.reduceToNat, Int.reducePow, Nat.reducePow, Int.reduceAdd, Int.reduceMul, Int.reduceSub, Int.reduceNeg, Nat.reduceAdd, Nat.reduceMul, Nat.reduceSub, Nat.reduceEqDiff, Nat.reduceLT, Nat.reduceLeDiff, hl])
        | ((first | (with_reducible refine r_ret ?_) | (with_reducible refine pick_viewG default (by first | omega | (simp only [LN, hl]; omega)) (by first | omega | (simp only [LN, hl]; omega)) ?_) | (with_reducible refine pick_own default (by first | omega | (simp only [LN, hl]; omega)) ?_) | (with_reducible refine And.intro (by first | decide | omega | assumption | (simp only [LN, hl]; omega)) ?_) | ((with_reducible show pickE _ _ _); first | refine pickE_intro _ ⟨by omega, by rfl⟩ ?_ | refine pickE_intro _ (by rfl) ?_) | fail); try simp -dsimp -implicitDefEqProofs (maxSteps := 1000000) (disch := first | omega | (simp only [LN, hl]; omega)) only [go_sem, Int.reduceToNat, Int.reducePow, Nat.reducePow, Int.reduceAdd, Int.reduceMul, Int.reduceSub, Int.reduceNeg, Nat.reduceAdd, Nat.reduceMul, Nat.reduceSub, Nat.reduceEqDiff, Nat.reduceLT, Nat.reduceLeDiff, hl])
        | fail)
      all_goals first | rfl | omega | trace_state
end Go.Proofs.YtkmobahedfdikaaDoor
