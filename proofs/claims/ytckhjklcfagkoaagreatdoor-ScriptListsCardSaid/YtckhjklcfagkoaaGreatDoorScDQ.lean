/- Contracts of functions of this program, and the plain facts that they rest on. No conditions. -/
import Derived.Test.YtckhjklcfagkoaaGreatDoorScCQ
set_option linter.unusedSimpArgs false
set_option linter.unusedVariables false
namespace Go.Proofs.YtckhjklcfagkoaaGreatDoor
open Go Go.Ab
attribute [local irreducible] callK callF loopQ vstep vskip pickE hideP
open Go.RowKit
set_option maxRecDepth 100000
attribute [local go_sem] eE rE eT bs_inj ext_bs byteAt_bs
attribute [local irreducible] numL
theorem dec_step (u : Nat) (h : ¬ u < 10) : Lib.decDigits u = Lib.decDigits (u / 10) ++ [UInt8.ofNat (48 + u % 10)] := by rw [Lib.decDigits, dif_neg h]
theorem dec_one (u : Nat) (h : u < 10) : Lib.decDigits u = [UInt8.ofNat (48 + u)] := by rw [Lib.decDigits, dif_pos h]
theorem tm10 (u : Nat) : Int.tmod (u : Int) 10 = (u : Int) % 10 := rfl
theorem td10 (u : Nat) : Int.tdiv (u : Int) 10 = (u : Int) / 10 := rfl
theorem dU (u : Nat) : UInt8.ofNat (IntKind.u8.wrap (IntKind.u64.wrap (48 + (u : Int) % 10))).toNat = UInt8.ofNat (48 + u % 10) := by
 rw [wr8, wr64]; congr 1; omega
theorem dU1 (u : Nat) (h : u < 10) : UInt8.ofNat (IntKind.u8.wrap (IntKind.u64.wrap (48 + (u : Int)))).toNat = UInt8.ofNat (48 + u) := by
 rw [wr8, wr64]; congr 1; omega
set_option maxRecDepth 100000 in
set_option maxHeartbeats 4000000 in
theorem rDec (n : Nat) (h1 : n ≤ 18446744073709551615) : PCalls Tryz.prog 69 [.v (.int .u64 n)] (.v (.string (bs (Lib.decDigits n)))) := by
 refine pcalls_of (E := E) (fn := Tryz.f69) 23 [.tmp 2] rfl rfl rfl rfl (by decide) rfl ?_
 have hnd := Lib.nDigits_le20 n (by omega)
 repeat' (first
  | (with_reducible first | refine r_seq ?_ | refine r_block ?_ | refine fork_not ?_ | refine fork_and ?_ | refine fork_or ?_ | refine chk_ok (by kernel_rfl) ?_)
  | ((with_reducible first | refine fork_dec ?_ ?_ | refine fork_eq ?_ ?_ | refine fork_ne ?_ ?_ | refine fork_intro ?_ ?_) <;> intro h)
  | ((with_reducible show False); omega)
  | ((first | (with_reducible first | refine r_exit ?_ | refine r_skip ?_ | refine r_cond ?_ | refine r_region ?_ | refine r_ret ?_ | show VX _ _ _ _ _ _ _ | show vstep _ _ _ _ _ | show vskip _ _ _ | show withV _ _) | ((with_reducible show endA _ _ _ _ _ _ _); simp -implicitDefEqProofs only [endA]) | (with_reducible first | refine pick_viewG default (by first | omega | (simp only [LN]; omega)) (by first | omega | (simp only [LN]; omega)) ?_ | refine pick_own default (by first | omega | (simp only [LN]; omega)) ?_ | refine And.intro (by first | decide | omega | assumption | (simp only [LN]; omega)) ?_) | ((with_reducible show pickE _ _ _); first | refine pickE_intro _ ⟨by omega, by rfl⟩ ?_ | refine pickE_intro _ (by rfl) ?_) | fail); try simp -dsimp -implicitDefEqProofs (maxSteps := 1000000) (disch := first | omega | (simp only [LN]; omega)) only [go_sem])
  | fail)
 refine r_loopA (α := Nat × List UInt8) [] (fun q b => [(0, .p (.v (.int .u64 q.1))), (3, .p (.v (.string (bs q.2))))]) (fun q b => []) (fun q => []) (fun q => q.1 ≤ n ∧ (q.2.length + Lib.nDigits q.1 ≤ 20) ∧ Lib.decDigits n = Lib.decDigits q.1 ++ q.2) (fun q => q.1) ((n, [])) ?h0_1 ?hs0_1 ?I_1 ?hI_1 ?round_1
 case hI_1 => intro x; (simp -dsimp -implicitDefEqProofs (maxSteps := 1000000) (disch := first | omega | (simp only [LN]; omega)) only [go_sem]) <;> exact rfl
 case hs0_1 => refine wk_auto ?_; (simp -dsimp -implicitDefEqProofs (maxSteps := 1000000) (disch := first | omega | (simp only [LN]; omega)) only [go_sem]) <;> (try omega)
 case h0_1 => exact ⟨Nat.le_refl _, by simpa using hnd, by simp⟩
 case round_1 =>
  rintro ⟨u, acc⟩ ⟨g1, g2, g4⟩
  dsimp only at g1 g2 g4
  repeat' (first
   | (with_reducible first | refine r_seq ?_ | refine r_block ?_ | refine fork_not ?_ | refine fork_and ?_ | refine fork_or ?_ | refine chk_ok (by kernel_rfl) ?_)
   | ((with_reducible first | refine fork_dec ?_ ?_ | refine fork_eq ?_ ?_ | refine fork_ne ?_ ?_ | refine fork_intro ?_ ?_) <;> intro h)
   | ((with_reducible show False); omega)
   | ((first | (with_reducible first | refine r_exit ?_ | refine r_skip ?_ | refine r_cond ?_ | refine r_region ?_ | refine r_ret ?_ | show VX _ _ _ _ _ _ _ | show vstep _ _ _ _ _ | show vskip _ _ _ | show withV _ _) | ((with_reducible show endA _ _ _ _ _ _ _); simp -implicitDefEqProofs only [endA]) | (with_reducible first | refine pick_viewG default (by first | omega | (simp only [LN]; omega)) (by first | omega | (simp only [LN]; omega)) ?_ | refine pick_own default (by first | omega | (simp only [LN]; omega)) ?_ | refine And.intro (by first | decide | omega | assumption | (simp only [LN]; omega)) ?_) | ((with_reducible show pickE _ _ _); first | refine pickE_intro _ ⟨by omega, by rfl⟩ ?_ | refine pickE_intro _ (by rfl) ?_) | fail); try simp -dsimp -implicitDefEqProofs (maxSteps := 1000000) (disch := first | omega | (simp only [LN]; omega)) only [go_sem])
   | fail)
  ·have h2 : ¬ u < 10 := by omega
   have g5 := Lib.nDigits_big h2
   rw [dec_step u h2, List.append_assoc] at g4
   (refine loopQ_next ((u / 10, UInt8.ofNat (48 + u % 10) :: acc)) ?_ ?_ ?_; ((exact ⟨by dsimp only; omega, by simp only [List.length_cons]; omega, g4⟩)); (show _ < _; omega); (simp -dsimp -implicitDefEqProofs (maxSteps := 1000000) (disch := first | omega | (simp only [LN, tm10, td10, dU]; omega)) only [go_sem, tm10, td10, dU]; try trivial))
   all_goals first | (congr 1; rw [wr64]; omega)
  ·have h2 : u < 10 := by omega
   rw [g4, dec_one u h2, dU1 u h2]; rfl
theorem rDecN (n : Int) (h : 0 ≤ n ∧ n ≤ 18446744073709551615) : PCalls Tryz.prog 69 [.v (.int .u64 n)] (.v (.string (bs (numL n)))) := by
 have := rDec n.toNat (by omega)
 rw [show ((n.toNat : Nat) : Int) = n by omega, ← numL_pos h.1] at this
 exact this
set_option maxRecDepth 100000 in
set_option maxHeartbeats 4000000 in
theorem rSig (n : Int) (h1 : -1 ≤ n ∧ n ≤ 4294967296) : PCalls Tryz.prog 68 [.v (.int .i64 n)] (.v (.string (bs (numL n)))) := by
 refine pcalls_of (E := E) (fn := Tryz.f68) 13 [.tmp 2] rfl rfl rfl rfl (by decide) rfl ?_
 have hl := numL_len (n := n) (by omega)
 by_cases h2 : n < 0
 ·have e0 : n = -1 := by omega
  have e1 : numL n = 45 :: numL 1 := by rw [e0]; unfold numL Lib.itoa; rfl
  have e2 : IntKind.u64.wrap (IntKind.i64.wrap (-n)) = 1 := by rw [wr64, IntKind.wrap_i64]; omega
  have e3 : -n = 1 := by omega
  have e4 : IntKind.u64.wrap 1 = 1 := rfl
  have hl2 := numL_len (n := 1) (by omega)
  repeat' (first
   | (with_reducible first | refine r_seq ?_ | refine r_block ?_ | refine fork_not ?_ | refine fork_and ?_ | refine fork_or ?_ | refine chk_ok (by kernel_rfl) ?_)
   | ((with_reducible first | refine fork_dec ?_ ?_ | refine fork_eq ?_ ?_ | refine fork_ne ?_ ?_ | refine fork_intro ?_ ?_) <;> intro h <;> try (exfalso; first | omega | exact h rfl | (revert h; decide) | (cases h; done)))
   | ((with_reducible show False); omega)
   | ((first | (with_reducible first | refine r_exit ?_ | refine r_skip ?_ | refine r_cond ?_ | refine r_region ?_ | refine r_ret ?_ | show VX _ _ _ _ _ _ _ | show vstep _ _ _ _ _ | show vskip _ _ _ | show withV _ _) | ((with_reducible show endA _ _ _ _ _ _ _); simp -implicitDefEqProofs only [endA]) | (with_reducible first | refine pick_viewG default (by first | omega | (simp only [LN, e2, e3, e4]; omega)) (by first | omega | (simp only [LN, e2, e3, e4]; omega)) ?_ | refine pick_own default (by first | omega | (simp only [LN, e2, e3, e4]; omega)) ?_ | refine And.intro (by first | decide | omega | assumption | (simp only [LN, e2, e3, e4]; omega)) ?_) | ((with_reducible apply callK_pure); (exact rDecN 1 (by omega))) | ((with_reducible apply callF_lend); (exact rDecN 1 (by omega)); rfl) | ((with_reducible apply callF_go); (exact rDecN 1 (by omega))) | ((with_reducible show pickE _ _ _); first | refine pickE_intro _ ⟨by omega, by rfl⟩ ?_ | refine pickE_intro _ (by rfl) ?_) | fail); try simp -dsimp -implicitDefEqProofs (maxSteps := 1000000) (disch := first | omega | (simp only [LN, e2, e3, e4]; omega)) only [go_sem, e2, e3, e4])
   | fail)
  all_goals first | (rw [e1]; first | done | rfl)
 ·have e2 : IntKind.u64.wrap n = n := by rw [wr64]; omega
  repeat' (first
   | (with_reducible first | refine r_seq ?_ | refine r_block ?_ | refine fork_not ?_ | refine fork_and ?_ | refine fork_or ?_ | refine chk_ok (by kernel_rfl) ?_)
   | ((with_reducible first | refine fork_dec ?_ ?_ | refine fork_eq ?_ ?_ | refine fork_ne ?_ ?_ | refine fork_intro ?_ ?_) <;> intro h <;> try (exfalso; first | omega | exact h rfl | (revert h; decide) | (cases h; done)))
   | ((with_reducible show False); omega)
   | ((first | (with_reducible first | refine r_exit ?_ | refine r_skip ?_ | refine r_cond ?_ | refine r_region ?_ | refine r_ret ?_ | show VX _ _ _ _ _ _ _ | show vstep _ _ _ _ _ | show vskip _ _ _ | show withV _ _) | ((with_reducible show endA _ _ _ _ _ _ _); simp -implicitDefEqProofs only [endA]) | (with_reducible first | refine pick_viewG default (by first | omega | (simp only [LN, e2]; omega)) (by first | omega | (simp only [LN, e2]; omega)) ?_ | refine pick_own default (by first | omega | (simp only [LN, e2]; omega)) ?_ | refine And.intro (by first | decide | omega | assumption | (simp only [LN, e2]; omega)) ?_) | ((with_reducible apply callK_pure); (exact rDecN n (by omega))) | ((with_reducible apply callF_lend); (exact rDecN n (by omega)); rfl) | ((with_reducible apply callF_go); (exact rDecN n (by omega))) | ((with_reducible show pickE _ _ _); first | refine pickE_intro _ ⟨by omega, by rfl⟩ ?_ | refine pickE_intro _ (by rfl) ?_) | fail); try simp -dsimp -implicitDefEqProofs (maxSteps := 1000000) (disch := first | omega | (simp only [LN, e2]; omega)) only [go_sem, e2])
   | fail)
  all_goals first | rfl
def nmS : List (List UInt8) := [[], [115, 116, 111, 114, 101], [99, 97, 115], [102, 108, 117, 115, 104], [102, 101, 110, 99, 101], [119, 114, 105, 116, 101, 98, 97, 99, 107], [97, 114, 109], [99, 114, 97, 115, 104]]
set_option maxRecDepth 100000 in
set_option maxHeartbeats 4000000 in
theorem rWord (k : Int) (h : 1 ≤ k ∧ k ≤ 7) : PCalls Tryz.prog 67 [.v (.int .i64 k)] (.v (.string (bs (nmS.getD k.toNat [])))) := by
 refine pcalls_of (E := E) (fn := Tryz.f67) 15 [.tmp 2] rfl rfl rfl rfl (by decide) rfl ?_
 have hk : k = 1 ∨ k = 2 ∨ k = 3 ∨ k = 4 ∨ k = 5 ∨ k = 6 ∨ k = 7 := by omega
 rcases hk with rfl | rfl | rfl | rfl | rfl | rfl | rfl
 all_goals
  repeat' (first
   | (with_reducible first | refine r_seq ?_ | refine r_block ?_ | refine fork_not ?_ | refine fork_and ?_ | refine fork_or ?_ | refine chk_ok (by kernel_rfl) ?_)
   | ((with_reducible first | refine fork_dec ?_ ?_ | refine fork_eq ?_ ?_ | refine fork_ne ?_ ?_ | refine fork_intro ?_ ?_) <;> intro h <;> try (exfalso; first | omega | exact h rfl | (revert h; decide) | (cases h; done)))
   | ((with_reducible show False); omega)
   | ((first | (with_reducible first | refine r_exit ?_ | refine r_skip ?_ | refine r_cond ?_ | refine r_region ?_ | refine r_ret ?_ | show VX _ _ _ _ _ _ _ | show vstep _ _ _ _ _ | show vskip _ _ _ | show withV _ _) | ((with_reducible show endA _ _ _ _ _ _ _); simp -implicitDefEqProofs only [endA]) | (with_reducible first | refine pick_viewG default (by first | omega | (simp only [LN]; omega)) (by first | omega | (simp only [LN]; omega)) ?_ | refine pick_own default (by first | omega | (simp only [LN]; omega)) ?_ | refine And.intro (by first | decide | omega | assumption | (simp only [LN]; omega)) ?_) | ((with_reducible show pickE _ _ _); first | refine pickE_intro _ ⟨by omega, by rfl⟩ ?_ | refine pickE_intro _ (by rfl) ?_) | fail); try simp -dsimp -implicitDefEqProofs (maxSteps := 1000000) (disch := first | omega | (simp only [LN]; omega)) only [go_sem])
   | fail)
  all_goals first | rfl | omega
theorem hexL_take {l : List UInt8} {i : Nat} (h : i < l.length) : hexL (l.take (i + 1)) = hexL (l.take i) ++ [hexS.getD ((l.getD i default).toNat / 16) 0, hexS.getD ((l.getD i default).toNat % 16) 0] := by
 have e : l.getD i default = l[i] := by simp [List.getD_eq_getElem?_getD, h]
 rw [List.take_add_one, hexL_app, e, List.getElem?_eq_getElem h]; rfl
theorem chL_e {l : List UInt8} (h : ¬ l.length = 0) : chL l = hexL l := by
 cases l with
 | nil => exact absurd rfl h
 | cons b l => rfl
set_option maxRecDepth 100000 in
set_option maxHeartbeats 4000000 in
theorem rHex (l : List UInt8) (hl : l.length ≤ 100000) : PCalls Tryz.prog 70 [.view 1 (l.map eB)] (.v (.string (bs (chL l)))) := by
 refine pcalls_facts ⟨_, rfl, rfl, by decide⟩ fun hf => ?_
 simp only [go_sem, big] at hf
 refine pcalls_of (E := E) (fn := Tryz.f70) 31 [.tmp 2] rfl rfl rfl rfl (by decide) rfl ?_
 by_cases h0 : l.length = 0
 ·have e : chL l = [45] := by cases l with
   | nil => rfl
   | cons b l => exact absurd h0 (by simp)
  repeat' (first
   | (with_reducible first | refine r_seq ?_ | refine r_block ?_ | refine fork_not ?_ | refine fork_and ?_ | refine fork_or ?_ | refine chk_ok (by kernel_rfl) ?_)
   | ((with_reducible first | refine fork_dec ?_ ?_ | refine fork_eq ?_ ?_ | refine fork_ne ?_ ?_ | refine fork_intro ?_ ?_) <;> intro h <;> try (exfalso; first | omega | exact h rfl | (revert h; decide) | (cases h; done)))
   | ((with_reducible show False); omega)
   | ((first | (with_reducible first | refine r_exit ?_ | refine r_skip ?_ | refine r_cond ?_ | refine r_region ?_ | refine r_ret ?_ | show VX _ _ _ _ _ _ _ | show vstep _ _ _ _ _ | show vskip _ _ _ | show withV _ _) | ((with_reducible show endA _ _ _ _ _ _ _); simp -implicitDefEqProofs only [endA]) | (with_reducible first | refine pick_viewG default (by first | omega | (simp only [LN, e]; omega)) (by first | omega | (simp only [LN, e]; omega)) ?_ | refine pick_own default (by first | omega | (simp only [LN, e]; omega)) ?_ | refine And.intro (by first | decide | omega | assumption | (simp only [LN, e]; omega)) ?_) | ((with_reducible show pickE _ _ _); first | refine pickE_intro _ ⟨by omega, by rfl⟩ ?_ | refine pickE_intro _ (by rfl) ?_) | fail); try simp -dsimp -implicitDefEqProofs (maxSteps := 1000000) (disch := first | omega | (simp only [LN, e]; omega)) only [go_sem, e])
   | fail)
  all_goals first | rfl | omega
 ·rw [chL_e h0]
  repeat' (first
   | (with_reducible first | refine r_seq ?_ | refine r_block ?_ | refine fork_not ?_ | refine fork_and ?_ | refine fork_or ?_ | refine chk_ok (by kernel_rfl) ?_)
   | ((with_reducible first | refine fork_dec ?_ ?_ | refine fork_eq ?_ ?_ | refine fork_ne ?_ ?_ | refine fork_intro ?_ ?_) <;> intro h <;> try (exfalso; first | omega | exact h rfl | (revert h; decide) | (cases h; done)))
   | ((with_reducible show False); omega)
   | ((first | (with_reducible first | refine r_exit ?_ | refine r_skip ?_ | refine r_cond ?_ | refine r_region ?_ | refine r_ret ?_ | show VX _ _ _ _ _ _ _ | show vstep _ _ _ _ _ | show vskip _ _ _ | show withV _ _) | ((with_reducible show endA _ _ _ _ _ _ _); simp -implicitDefEqProofs only [endA]) | (with_reducible first | refine pick_viewG default (by first | omega | (simp only [LN]; omega)) (by first | omega | (simp only [LN]; omega)) ?_ | refine pick_own default (by first | omega | (simp only [LN]; omega)) ?_ | refine And.intro (by first | decide | omega | assumption | (simp only [LN]; omega)) ?_) | ((with_reducible show pickE _ _ _); first | refine pickE_intro _ ⟨by omega, by rfl⟩ ?_ | refine pickE_intro _ (by rfl) ?_) | fail); try simp -dsimp -implicitDefEqProofs (maxSteps := 1000000) (disch := first | omega | (simp only [LN]; omega)) only [go_sem])
   | fail)
  all_goals try (exfalso; omega)
  refine r_loopA (α := Nat) [3, 11, 12] (fun i b => [(13, aI i), (4, .sl b 1 0 (2 * i))]) (fun i b => []) (fun i => [.arr 1 ((hexL (l.take i)).map eB)]) (fun i => i ≤ l.length) (fun i => l.length - i) (0) ?h0_2 ?hs0_2 ?I_2 ?hI_2 ?round_2
  case hI_2 => intro x; (simp -dsimp -implicitDefEqProofs (maxSteps := 1000000) (disch := first | omega | (simp only [LN]; omega)) only [go_sem]) <;> exact rfl
  case hs0_2 => refine wk_auto ?_; (simp -dsimp -implicitDefEqProofs (maxSteps := 1000000) (disch := first | omega | (simp only [LN, List.take_zero, hexL]; omega)) only [go_sem, List.take_zero, hexL]) <;> (try omega)
  case h0_2 => exact Nat.zero_le _
  case round_2 =>
   intro i hi
   have hlen := hexL_len (l.take i)
   rw [List.length_take, Nat.min_eq_left hi] at hlen
   have ht := List.take_length (l := l)
   by_cases h : i < l.length
   ·have hs := hexL_take h
    have hb := UInt8.toNat_lt (l.getD i default)
    have e1 : ((l.getD i default).toNat : Int).tdiv 16 = (((l.getD i default).toNat / 16 : Nat) : Int) := rfl
    have e2 : ((l.getD i default).toNat : Int).tmod 16 = (((l.getD i default).toNat % 16 : Nat) : Int) := rfl
    have e3 : IntKind.u8.wrap (((l.getD i default).toNat / 16 : Nat) : Int) = (((l.getD i default).toNat / 16 : Nat) : Int) := by rw [wr8]; omega
    have e4 : IntKind.u8.wrap (((l.getD i default).toNat % 16 : Nat) : Int) = (((l.getD i default).toNat % 16 : Nat) : Int) := by rw [wr8]; omega
    have e5 : IntKind.u8.wrap (((l.getD i default).toNat : Int) / 16) = (((l.getD i default).toNat / 16 : Nat) : Int) := by rw [wr8]; omega
    have e6 : IntKind.u8.wrap (((l.getD i default).toNat : Int) % 16) = (((l.getD i default).toNat % 16 : Nat) : Int) := by rw [wr8]; omega
    have e7 : (((l.getD i default).toNat : Int) / 16).toNat = (l.getD i default).toNat / 16 := by omega
    have e8 : (((l.getD i default).toNat : Int) % 16).toNat = (l.getD i default).toNat % 16 := by omega
    repeat' (first
     | (with_reducible first | refine r_seq ?_ | refine r_block ?_ | refine fork_not ?_ | refine fork_and ?_ | refine fork_or ?_ | refine chk_ok (by kernel_rfl) ?_)
     | ((with_reducible first | refine fork_dec ?_ ?_ | refine fork_eq ?_ ?_ | refine fork_ne ?_ ?_ | refine fork_intro ?_ ?_) <;> intro h <;> try (exfalso; first | omega | exact h rfl | (revert h; decide) | (cases h; done)))
     | ((with_reducible show False); omega)
     | ((first | (with_reducible first | refine r_exit ?_ | refine r_skip ?_ | refine r_cond ?_ | refine r_region ?_ | refine r_ret ?_ | show VX _ _ _ _ _ _ _ | show vstep _ _ _ _ _ | show vskip _ _ _ | show withV _ _) | ((with_reducible show endA _ _ _ _ _ _ _); simp -implicitDefEqProofs only [endA]) | (with_reducible first | refine pick_viewG default (by first | omega | (simp only [LN, hlen, e1, e2, e3, e4, e5, e6, e7, e8]; omega)) (by first | omega | (simp only [LN, hlen, e1, e2, e3, e4, e5, e6, e7, e8]; omega)) ?_ | refine pick_own default (by first | omega | (simp only [LN, hlen, e1, e2, e3, e4, e5, e6, e7, e8]; omega)) ?_ | refine And.intro (by first | decide | omega | assumption | (simp only [LN, hlen, e1, e2, e3, e4, e5, e6, e7, e8]; omega)) ?_) | ((with_reducible show pickE _ _ _); first | refine pickE_intro _ ⟨by omega, by rfl⟩ ?_ | refine pickE_intro _ (by rfl) ?_) | fail); try simp -dsimp -implicitDefEqProofs (maxSteps := 1000000) (disch := first | omega | (simp only [LN, hlen, e1, e2, e3, e4, e5, e6, e7, e8]; omega)) only [go_sem, hlen, e1, e2, e3, e4, e5, e6, e7, e8])
     | fail)
    all_goals first | omega | (refine loopQ_next (i + 1) ?_ ?_ ?_; (omega); (show _ < _; omega); (simp -dsimp -implicitDefEqProofs (maxSteps := 1000000) (disch := first | omega | (simp only [LN, hs, List.map_append, List.map_cons, List.map_nil, hlen, hexS, e7, e8]; omega)) only [go_sem, hs, List.map_append, List.map_cons, List.map_nil, hlen, hexS, e7, e8]; try trivial))
   ·obtain rfl : i = l.length := by omega
    have hl2 := hexL_len l
    have ht2 : List.take (2 * l.length) (hexL l) = hexL l := List.take_of_length_le (by omega)
    repeat' (first
     | (with_reducible first | refine r_seq ?_ | refine r_block ?_ | refine fork_not ?_ | refine fork_and ?_ | refine fork_or ?_ | refine chk_ok (by kernel_rfl) ?_)
     | ((with_reducible first | refine fork_dec ?_ ?_ | refine fork_eq ?_ ?_ | refine fork_ne ?_ ?_ | refine fork_intro ?_ ?_) <;> intro h <;> try (exfalso; first | omega | exact h rfl | (revert h; decide) | (cases h; done)))
     | ((with_reducible show False); omega)
     | ((first | (with_reducible first | refine r_exit ?_ | refine r_skip ?_ | refine r_cond ?_ | refine r_region ?_ | refine r_ret ?_ | show VX _ _ _ _ _ _ _ | show vstep _ _ _ _ _ | show vskip _ _ _ | show withV _ _) | ((with_reducible show endA _ _ _ _ _ _ _); simp -implicitDefEqProofs only [endA]) | (with_reducible first | refine pick_viewG default (by first | omega | (simp only [LN, ht, hl2, ht2]; omega)) (by first | omega | (simp only [LN, ht, hl2, ht2]; omega)) ?_ | refine pick_own default (by first | omega | (simp only [LN, ht, hl2, ht2]; omega)) ?_ | refine And.intro (by first | decide | omega | assumption | (simp only [LN, ht, hl2, ht2]; omega)) ?_) | ((with_reducible show pickE _ _ _); first | refine pickE_intro _ ⟨by omega, by rfl⟩ ?_ | refine pickE_intro _ (by rfl) ?_) | fail); try simp -dsimp -implicitDefEqProofs (maxSteps := 1000000) (disch := first | omega | (simp only [LN, ht, hl2, ht2]; omega)) only [go_sem, ht, hl2, ht2])
     | fail)
    all_goals first | rfl | omega
theorem ws_1 {x : Ev} (h : x.k = 1) : (wsE x).getD 0 [] = [115, 116, 111, 114, 101] := by simp [wsE, h]
theorem ws_2 {x : Ev} (h : x.k = 2) : (wsE x).getD 0 [] = [99, 97, 115] := by simp [wsE, h]
theorem ws_3 {x : Ev} (h : x.k = 3) : (wsE x).getD 0 [] = [102, 108, 117, 115, 104] := by simp [wsE, h]
theorem ws_4 {x : Ev} (h : x.k = 4) : (wsE x).getD 0 [] = [102, 101, 110, 99, 101] := by simp [wsE, h]
theorem ws_5 {x : Ev} (h : x.k = 5) : (wsE x).getD 0 [] = [119, 114, 105, 116, 101, 98, 97, 99, 107] := by simp [wsE, h]
theorem ws_6 {x : Ev} (h : x.k = 6) : (wsE x).getD 0 [] = [97, 114, 109] := by simp [wsE, h]
theorem ws_7 {x : Ev} (h : x.k = 7) : (wsE x).getD 0 [] = [99, 114, 97, 115, 104] := by simp [wsE, h]
set_option maxRecDepth 100000 in
set_option maxHeartbeats 4000000 in
theorem rText (x : Ev) (R : Rng x) (hc : x.ch.length ≤ 1000000) : PCalls Tryz.prog 24 [rE x] (.v (.string (bs (txV x)))) := by
 refine pcalls_of (E := E) (fn := Tryz.f24) 101 [.tmp 2] rfl rfl rfl rfl (by decide) rfl ?_
 have kv := rValid x hc
 cases hv : okE x with
 | false =>
  rw [hv] at kv
  have e : txV x = [] := by unfold txV; rw [hv]; rfl
  repeat' (first
   | (with_reducible first | refine r_seq ?_ | refine r_block ?_ | refine fork_not ?_ | refine fork_and ?_ | refine fork_or ?_ | refine chk_ok (by kernel_rfl) ?_)
   | ((with_reducible first | refine fork_dec ?_ ?_ | refine fork_eq ?_ ?_ | refine fork_ne ?_ ?_ | refine fork_intro ?_ ?_) <;> intro h <;> try (exfalso; first | omega | exact h rfl | (revert h; decide) | (cases h; done)))
   | ((with_reducible show False); omega)
   | ((first | (with_reducible first | refine r_exit ?_ | refine r_skip ?_ | refine r_cond ?_ | refine r_region ?_ | refine r_ret ?_ | show VX _ _ _ _ _ _ _ | show vstep _ _ _ _ _ | show vskip _ _ _ | show withV _ _) | ((with_reducible show endA _ _ _ _ _ _ _); simp -implicitDefEqProofs only [endA]) | (with_reducible first | refine pick_viewG default (by first | omega | (simp only [LN, e]; omega)) (by first | omega | (simp only [LN, e]; omega)) ?_ | refine pick_own default (by first | omega | (simp only [LN, e]; omega)) ?_ | refine And.intro (by first | decide | omega | assumption | (simp only [LN, e]; omega)) ?_) | ((with_reducible apply callK_pure); (exact kv)) | ((with_reducible apply callF_lend); (exact kv); rfl) | ((with_reducible apply callF_go); (exact kv)) | ((with_reducible show pickE _ _ _); first | refine pickE_intro _ ⟨by omega, by rfl⟩ ?_ | refine pickE_intro _ (by rfl) ?_) | fail); try simp -dsimp -implicitDefEqProofs (maxSteps := 1000000) (disch := first | omega | (simp only [LN, e]; omega)) only [go_sem, e])
   | fail)
  all_goals first | rfl
 | true =>
  rw [hv] at kv
  have hk := okE_t hv
  have e : txV x = txE x := by unfold txV; rw [hv]; rfl
  have n1 := numL_len (n := x.th) ⟨R.th.1, by have := R.th.2; omega⟩
  have n2 := numL_len (n := x.o) ⟨by have := R.o.1; omega, R.o.2⟩
  have n3 := numL_len (n := x.v) ⟨by have := R.v.1; omega, R.v.2⟩
  have n4 := numL_len (n := x.w) ⟨by have := R.w.1; omega, R.w.2⟩
  have n5 := numL_len (n := x.ln) ⟨R.ln.1, by have := R.ln.2; omega⟩
  have n6 := numL_len (n := x.n) ⟨R.n.1, by have := R.n.2; omega⟩
  have n7 := chL_len x.ch
  have k2 := rDecN x.o R.o
  have k3 := rDecN x.v R.v
  have k4 := rDecN x.w R.w
  have ho : -1 ≤ x.th ∧ x.th ≤ 4294967296 ∧ -1 ≤ x.ln ∧ x.ln ≤ 4294967296 ∧ -1 ≤ x.n ∧ x.n ≤ 4294967296 ∧ x.ch.length ≤ 512 ∧ 1 ≤ x.k ∧ x.k ≤ 7 := by unfold okK at hk; omega
  obtain ⟨o1, o2, o3, o4, o5, o6, o7, o8, o9⟩ := ho
  have k1 := rSig x.th ⟨o1, o2⟩
  have k5 := rSig x.ln ⟨o3, o4⟩
  have k6 := rSig x.n ⟨o5, o6⟩
  have k7 := rHex x.ch (by omega)
  have k8 := rWord x.k ⟨o8, o9⟩
  rw [e]
  have hks : x.k = 1 ∨ x.k = 2 ∨ x.k = 3 ∨ x.k = 4 ∨ x.k = 5 ∨ x.k = 6 ∨ x.k = 7 := by omega
  have hn : nmS.getD x.k.toNat [] = (wsE x).getD 0 [] := by
   rcases hks with h | h | h | h | h | h | h <;> (rw [h]; simp [nmS, wsE, h])
  rw [hn] at k8
  rcases hks with h | h | h | h | h | h | h
  all_goals
   first | rw [ws_1 h] at k8 | rw [ws_2 h] at k8 | rw [ws_3 h] at k8 | rw [ws_4 h] at k8 | rw [ws_5 h] at k8 | rw [ws_6 h] at k8 | rw [ws_7 h] at k8
   repeat' (first
    | (with_reducible first | refine r_seq ?_ | refine r_block ?_ | refine fork_not ?_ | refine fork_and ?_ | refine fork_or ?_ | refine chk_ok (by kernel_rfl) ?_)
    | ((with_reducible first | refine fork_dec ?_ ?_ | refine fork_eq ?_ ?_ | refine fork_ne ?_ ?_ | refine fork_intro ?_ ?_) <;> intro h <;> try (exfalso; first | omega | exact h rfl | (revert h; decide) | (cases h; done)))
    | ((with_reducible show False); omega)
    | ((first | (with_reducible first | refine r_exit ?_ | refine r_skip ?_ | refine r_cond ?_ | refine r_region ?_ | refine r_ret ?_ | show VX _ _ _ _ _ _ _ | show vstep _ _ _ _ _ | show vskip _ _ _ | show withV _ _) | ((with_reducible show endA _ _ _ _ _ _ _); simp -implicitDefEqProofs only [endA]) | (with_reducible first | refine pick_viewG default (by first | omega | (simp only [LN]; omega)) (by first | omega | (simp only [LN]; omega)) ?_ | refine pick_own default (by first | omega | (simp only [LN]; omega)) ?_ | refine And.intro (by first | decide | omega | assumption | (simp only [LN]; omega)) ?_) | ((with_reducible apply callK_pure); (first | exact kv | exact k1 | exact k2 | exact k3 | exact k4 | exact k5 | exact k6 | exact k7 | exact k8 | fail)) | ((with_reducible apply callF_lend); (first | exact kv | exact k1 | exact k2 | exact k3 | exact k4 | exact k5 | exact k6 | exact k7 | exact k8 | fail); rfl) | ((with_reducible apply callF_go); (first | exact kv | exact k1 | exact k2 | exact k3 | exact k4 | exact k5 | exact k6 | exact k7 | exact k8 | fail)) | ((with_reducible show pickE _ _ _); first | refine pickE_intro _ ⟨by omega, by rfl⟩ ?_ | refine pickE_intro _ (by rfl) ?_) | fail); try simp -dsimp -implicitDefEqProofs (maxSteps := 1000000) (disch := first | omega | (simp only [LN]; omega)) only [go_sem])
    | fail)
   all_goals first | omega | (simp [txE, wsE, joinL, h]; done) | (simp [txE, wsE, joinL, *]; done)
end Go.Proofs.YtckhjklcfagkoaaGreatDoor