/- Contracts of functions of this program, and the plain facts that they rest on. No conditions. -/
import Derived.Test.YtcnbngflehiphaaDoorD5
set_option linter.unusedSimpArgs false
set_option linter.unusedVariables false
namespace Go.Proofs.YtcnbngflehiphaaDoor
open Go Go.Ab
attribute [local irreducible] callK callF loopQ vstep vskip pickE hideP
attribute [local go_sem] eI
set_option maxRecDepth 100000
theorem set_eB (q : List UInt8) (k : Nat) (n : Int) : (q.map eB).set k (.v (.int .u8 (IntKind.u8.wrap n))) = (q.set k (UInt8.ofNat (IntKind.u8.wrap n).toNat)).map eB := by
 rw [List.map_set]
 congr 1
 show _ = eB _
 unfold eB
 congr 2
 rw [wr8]
 have h0 : 0 ≤ n % 256 := Int.emod_nonneg _ (by decide)
 have h1 : n % 256 < 256 := Int.emod_lt_of_pos _ (by decide)
 generalize n % 256 = x at *
 simp; omega
theorem set_7 (q : List UInt8) (k : Nat) : (q.map eB).set k (.v (.int .u8 7)) = (q.set k 7).map eB := by
 rw [List.map_set]; rfl
theorem new_ok {p : List UInt8} (h : p.length % 64 = 0) (h2 : p.length / 64 ≤ 4096) : newM p = p := if_pos ⟨h, h2⟩
theorem newE_ok {p : List UInt8} (h : p.length % 64 = 0) (h2 : p.length / 64 ≤ 4096) : newE p = 0 := by unfold newE; rw [if_neg (by omega), if_neg (by omega)]
theorem new_no {p : List UInt8} (h : ¬ p.length % 64 = 0) : newM p = [] := if_neg (by omega)
theorem newE_no {p : List UInt8} (h : ¬ p.length % 64 = 0) : newE p = 11 := if_pos h
attribute [local irreducible] newM newE
set_option maxRecDepth 100000 in
set_option maxHeartbeats 4000000 in
theorem c3 (p : List UInt8) : PCalls Tryd.prog 3 [.view 1 (p.map eB)] (.v (.bool true)) := by
 refine pcalls_facts ⟨_, rfl, rfl, by decide⟩ fun hf => ?_
 simp only [go_sem, big] at hf
 refine pcalls_of (E := E) (fn := Tryd.f3) 92 [.tmp 2] rfl rfl rfl rfl (by decide) rfl ?_
 by_cases h5 : 5000 < p.length
 ·repeat' (first
   | (with_reducible first | refine r_seq ?_ | refine r_block ?_ | refine fork_not ?_ | refine fork_and ?_ | refine fork_or ?_ | refine chk_ok (by kernel_rfl) ?_)
   | ((with_reducible first | refine fork_dec ?_ ?_ | refine fork_eq ?_ ?_ | refine fork_ne ?_ ?_ | refine fork_intro ?_ ?_) <;> intro h <;> try (exfalso; first | omega | exact h rfl | (revert h; decide) | (cases h; done)))
   | ((with_reducible show False); omega)
   | ((first | (with_reducible first | refine r_exit ?_ | refine r_skip ?_ | refine r_cond ?_ | refine r_region ?_ | refine r_ret ?_ | show VX _ _ _ _ _ _ _ | show vstep _ _ _ _ _ | show vskip _ _ _ | show withV _ _) | ((with_reducible show endA _ _ _ _ _ _ _); simp -implicitDefEqProofs only [endA]) | (with_reducible first | refine pick_viewG default (by first | omega | (simp only [LN]; omega)) (by first | omega | (simp only [LN]; omega)) ?_ | refine pick_own default (by first | omega | (simp only [LN]; omega)) ?_ | refine And.intro (by first | decide | omega | assumption | (simp only [LN]; omega)) ?_) | ((with_reducible apply callK_pure); (exact c13)) | ((with_reducible apply callF_lend); (exact c13); rfl) | ((with_reducible apply callF_go); (exact c13)) | ((with_reducible show pickE _ _ _); first | refine pickE_intro _ ⟨by omega, by rfl⟩ ?_ | refine pickE_intro _ (by rfl) ?_) | fail); try simp -dsimp -implicitDefEqProofs (maxSteps := 1000000) (disch := first | omega | (simp only [LN]; omega)) only [go_sem])
   | fail)
  all_goals first | rfl | omega
 ·by_cases h64 : p.length % 64 = 0
  ·have e1 := new_ok h64 (by omega)
   have e2 := newE_ok h64 (by omega)
   repeat' (first
    | (with_reducible first | refine r_seq ?_ | refine r_block ?_ | refine fork_not ?_ | refine fork_and ?_ | refine fork_or ?_ | refine chk_ok (by kernel_rfl) ?_)
    | ((with_reducible first | refine fork_dec ?_ ?_ | refine fork_eq ?_ ?_ | refine fork_ne ?_ ?_ | refine fork_intro ?_ ?_) <;> intro h <;> try (exfalso; first | omega | exact h rfl | (revert h; decide) | (cases h; done)))
    | ((with_reducible show False); omega)
    | ((first | (with_reducible first | refine r_exit ?_ | refine r_skip ?_ | refine r_cond ?_ | refine r_region ?_ | refine r_ret ?_ | show VX _ _ _ _ _ _ _ | show vstep _ _ _ _ _ | show vskip _ _ _ | show withV _ _) | ((with_reducible show endA _ _ _ _ _ _ _); simp -implicitDefEqProofs only [endA]) | (with_reducible first | refine pick_viewG default (by first | omega | (simp only [LN, e1, e2]; omega)) (by first | omega | (simp only [LN, e1, e2]; omega)) ?_ | refine pick_own default (by first | omega | (simp only [LN, e1, e2]; omega)) ?_ | refine And.intro (by first | decide | omega | assumption | (simp only [LN, e1, e2]; omega)) ?_) | ((with_reducible apply callK_pure); (first | exact c13 | exact c14 p | exact c16 p p (by omega) | fail)) | ((with_reducible apply callF_lend); (first | exact c13 | exact c14 p | exact c16 p p (by omega) | fail); rfl) | ((with_reducible apply callF_go); (first | exact c13 | exact c14 p | exact c16 p p (by omega) | fail)) | (with_reducible first | apply callK_lent | apply callF_lent | apply hideP_own) | ((with_reducible apply callA_go); (first | exact a17 p (by omega) | fail)) | ((with_reducible show pickE _ _ _); first | refine pickE_intro _ ⟨by omega, by rfl⟩ ?_ | refine pickE_intro _ (by rfl) ?_) | fail); try simp -dsimp -implicitDefEqProofs (maxSteps := 1000000) (disch := first | omega | (simp only [LN, e1, e2]; omega)) only [go_sem, e1, e2])
    | fail)
   refine r_loopA (α := Nat × List UInt8) [0, 3, 4, 6, 49] (fun x b => [(50, aI x.1)]) (fun x b => [(6, .arr 1 (x.2.map eB))]) (fun x => []) (fun x => x.1 ≤ p.length ∧ x.2.length = p.length) (fun x => p.length - x.1) ((0, p)) ?h0_1 ?hs0_1 ?I_1 ?hI_1 ?round_1
   case hI_1 => intro x; (simp -dsimp -implicitDefEqProofs (maxSteps := 1000000) (disch := first | omega | (simp only [LN]; omega)) only [go_sem]) <;> exact rfl
   case hs0_1 => refine wk_auto ?_; (simp -dsimp -implicitDefEqProofs (maxSteps := 1000000) (disch := first | omega | (simp only [LN]; omega)) only [go_sem]) <;> (try omega)
   case h0_1 => exact ⟨Nat.zero_le _, rfl⟩
   case round_1 =>
    rintro ⟨k, q⟩ ⟨h1, h2⟩
    dsimp only at h1 h2
    repeat' (first
     | (with_reducible first | refine r_seq ?_ | refine r_block ?_ | refine fork_not ?_ | refine fork_and ?_ | refine fork_or ?_ | refine chk_ok (by kernel_rfl) ?_)
     | ((with_reducible first | refine fork_dec ?_ ?_ | refine fork_eq ?_ ?_ | refine fork_ne ?_ ?_ | refine fork_intro ?_ ?_) <;> intro h <;> try (exfalso; first | omega | exact h rfl | (revert h; decide) | (cases h; done)))
     | ((with_reducible show False); omega)
     | ((first | (with_reducible first | refine r_exit ?_ | refine r_skip ?_ | refine r_cond ?_ | refine r_region ?_ | refine r_ret ?_ | show VX _ _ _ _ _ _ _ | show vstep _ _ _ _ _ | show vskip _ _ _ | show withV _ _) | ((with_reducible show endA _ _ _ _ _ _ _); simp -implicitDefEqProofs only [endA]) | (with_reducible first | refine pick_viewG default (by first | omega | (simp only [LN, e1, e2, h2]; omega)) (by first | omega | (simp only [LN, e1, e2, h2]; omega)) ?_ | refine pick_own default (by first | omega | (simp only [LN, e1, e2, h2]; omega)) ?_ | refine And.intro (by first | decide | omega | assumption | (simp only [LN, e1, e2, h2]; omega)) ?_) | ((with_reducible apply callK_pure); (first | exact c13 | exact c14 p | exact c16 p p (by omega) | fail)) | ((with_reducible apply callF_lend); (first | exact c13 | exact c14 p | exact c16 p p (by omega) | fail); rfl) | ((with_reducible apply callF_go); (first | exact c13 | exact c14 p | exact c16 p p (by omega) | fail)) | ((with_reducible show pickE _ _ _); first | refine pickE_intro _ ⟨by omega, by rfl⟩ ?_ | refine pickE_intro _ (by rfl) ?_) | fail); try simp -dsimp -implicitDefEqProofs (maxSteps := 1000000) (disch := first | omega | (simp only [LN, e1, e2, h2]; omega)) only [go_sem, e1, e2, h2])
     | fail)
    ·(refine loopQ_next ((k + 1, q.set k (UInt8.ofNat (IntKind.u8.wrap ((BitVec.ofInt IntKind.u8.bits ((q.getD k default).toNat : Int) ^^^ BitVec.ofInt IntKind.u8.bits 255).toNat : Int)).toNat))) ?_ ?_ ?_; (exact ⟨by dsimp only; omega, by dsimp only; rw [List.length_set]; exact h2⟩); (show _ < _; omega); (simp -dsimp -implicitDefEqProofs (maxSteps := 1000000) (disch := first | omega | (simp only [LN, set_eB]; omega)) only [go_sem, set_eB]; try trivial))
    ·refine r_loopA (α := Nat × List UInt8) [0, 3, 4, 8, 9, 70] (fun y b => [(71, aI y.1)]) (fun y b => [(8, .arr 1 (y.2.map eB))]) (fun y => []) (fun y => y.1 ≤ p.length ∧ y.2.length = p.length) (fun y => p.length - y.1) ((0, p)) ?h0_2 ?hs0_2 ?I_2 ?hI_2 ?round_2
     case hI_2 => intro x; (simp -dsimp -implicitDefEqProofs (maxSteps := 1000000) (disch := first | omega | (simp only [LN]; omega)) only [go_sem]) <;> exact rfl
     case hs0_2 => refine wk_auto ?_; (simp -dsimp -implicitDefEqProofs (maxSteps := 1000000) (disch := first | omega | (simp only [LN]; omega)) only [go_sem]) <;> (try omega)
     case h0_2 => exact ⟨Nat.zero_le _, rfl⟩
     case round_2 =>
      rintro ⟨k2, q2⟩ ⟨h3, h4⟩
      dsimp only at h3 h4
      repeat' (first
       | (with_reducible first | refine r_seq ?_ | refine r_block ?_ | refine fork_not ?_ | refine fork_and ?_ | refine fork_or ?_ | refine chk_ok (by kernel_rfl) ?_)
       | ((with_reducible first | refine fork_dec ?_ ?_ | refine fork_eq ?_ ?_ | refine fork_ne ?_ ?_ | refine fork_intro ?_ ?_) <;> intro h <;> try (exfalso; first | omega | exact h rfl | (revert h; decide) | (cases h; done)))
       | ((with_reducible show False); omega)
       | ((first | (with_reducible first | refine r_exit ?_ | refine r_skip ?_ | refine r_cond ?_ | refine r_region ?_ | refine r_ret ?_ | show VX _ _ _ _ _ _ _ | show vstep _ _ _ _ _ | show vskip _ _ _ | show withV _ _) | ((with_reducible show endA _ _ _ _ _ _ _); simp -implicitDefEqProofs only [endA]) | (with_reducible first | refine pick_viewG default (by first | omega | (simp only [LN, e1, e2, h4]; omega)) (by first | omega | (simp only [LN, e1, e2, h4]; omega)) ?_ | refine pick_own default (by first | omega | (simp only [LN, e1, e2, h4]; omega)) ?_ | refine And.intro (by first | decide | omega | assumption | (simp only [LN, e1, e2, h4]; omega)) ?_) | ((with_reducible apply callK_pure); (first | exact c13 | exact c14 p | exact c16 p p (by omega) | fail)) | ((with_reducible apply callF_lend); (first | exact c13 | exact c14 p | exact c16 p p (by omega) | fail); rfl) | ((with_reducible apply callF_go); (first | exact c13 | exact c14 p | exact c16 p p (by omega) | fail)) | ((with_reducible show pickE _ _ _); first | refine pickE_intro _ ⟨by omega, by rfl⟩ ?_ | refine pickE_intro _ (by rfl) ?_) | fail); try simp -dsimp -implicitDefEqProofs (maxSteps := 1000000) (disch := first | omega | (simp only [LN, e1, e2, h4]; omega)) only [go_sem, e1, e2, h4])
       | fail)
      ·(refine loopQ_next ((k2 + 1, q2.set k2 7)) ?_ ?_ ?_; (exact ⟨by dsimp only; omega, by dsimp only; rw [List.length_set]; exact h4⟩); (show _ < _; omega); (simp -dsimp -implicitDefEqProofs (maxSteps := 1000000) (disch := first | omega | (simp only [LN, set_7]; omega)) only [go_sem, set_7]; try trivial))
  ·have e1 := new_no h64
   have e2 := newE_no h64
   repeat' (first
    | (with_reducible first | refine r_seq ?_ | refine r_block ?_ | refine fork_not ?_ | refine fork_and ?_ | refine fork_or ?_ | refine chk_ok (by kernel_rfl) ?_)
    | ((with_reducible first | refine fork_dec ?_ ?_ | refine fork_eq ?_ ?_ | refine fork_ne ?_ ?_ | refine fork_intro ?_ ?_) <;> intro h <;> try (exfalso; first | omega | exact h rfl | (revert h; decide) | (cases h; done)))
    | ((with_reducible show False); omega)
    | ((first | (with_reducible first | refine r_exit ?_ | refine r_skip ?_ | refine r_cond ?_ | refine r_region ?_ | refine r_ret ?_ | show VX _ _ _ _ _ _ _ | show vstep _ _ _ _ _ | show vskip _ _ _ | show withV _ _) | ((with_reducible show endA _ _ _ _ _ _ _); simp -implicitDefEqProofs only [endA]) | (with_reducible first | refine pick_viewG default (by first | omega | (simp only [LN, e1, e2]; omega)) (by first | omega | (simp only [LN, e1, e2]; omega)) ?_ | refine pick_own default (by first | omega | (simp only [LN, e1, e2]; omega)) ?_ | refine And.intro (by first | decide | omega | assumption | (simp only [LN, e1, e2]; omega)) ?_) | ((with_reducible apply callK_pure); (first | exact c13 | exact c14 p | exact c15 [] (by decide) | fail)) | ((with_reducible apply callF_lend); (first | exact c13 | exact c14 p | exact c15 [] (by decide) | fail); rfl) | ((with_reducible apply callF_go); (first | exact c13 | exact c14 p | exact c15 [] (by decide) | fail)) | ((with_reducible show pickE _ _ _); first | refine pickE_intro _ ⟨by omega, by rfl⟩ ?_ | refine pickE_intro _ (by rfl) ?_) | fail); try simp -dsimp -implicitDefEqProofs (maxSteps := 1000000) (disch := first | omega | (simp only [LN, e1, e2]; omega)) only [go_sem, e1, e2])
    | fail)
   all_goals first | rfl | omega
end Go.Proofs.YtcnbngflehiphaaDoor