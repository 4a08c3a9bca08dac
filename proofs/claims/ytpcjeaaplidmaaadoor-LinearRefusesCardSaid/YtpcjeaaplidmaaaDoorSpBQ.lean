/- Contracts of functions of this program, and the plain facts that they rest on. No conditions. -/
import Derived.Test.YtpcjeaaplidmaaaDoorSpAQ
set_option linter.unusedSimpArgs false
set_option linter.unusedVariables false
namespace Go.Proofs.YtpcjeaaplidmaaaDoor.Sp
open Go Go.Ab
attribute [local irreducible] callK callF loopQ vstep vskip pickE hideP
set_option maxRecDepth 100000 in
set_option maxHeartbeats 4000000 in
theorem c48 (n : Int) (h : 0 ≤ n ∧ n ≤ 1000000) : ACalls Tryd.prog 62 [.p (.v (.slice none 0 0)), .p (.v (.int .i64 n))] [] (.sl 0 1 0 0) [.arr 1 []] := by
 refine acalls_of (E := E) (fn := Tryd.f62) 27 [.tmp 4] rfl rfl rfl rfl (by decide) rfl rfl ?_
 repeat' (first
  | (with_reducible first | refine r_seq ?_ | refine r_block ?_ | refine fork_not ?_ | refine fork_and ?_ | refine fork_or ?_ | refine chk_ok (by kernel_rfl) ?_)
  | ((with_reducible first | refine fork_dec ?_ ?_ | refine fork_eq ?_ ?_ | refine fork_ne ?_ ?_ | refine fork_intro ?_ ?_) <;> intro h)
  | ((with_reducible show False); omega)
  | ((first | (with_reducible first | refine r_exit ?_ | refine r_skip ?_ | refine r_cond ?_ | refine r_region ?_ | refine r_ret ?_ | show VX _ _ _ _ _ _ _ | show vstep _ _ _ _ _ | show vskip _ _ _ | show withV _ _) | ((with_reducible show endA _ _ _ _ _ _ _); simp -implicitDefEqProofs only [endA]) | (with_reducible first | refine pick_viewG default (by first | omega | (simp only [LN]; omega)) (by first | omega | (simp only [LN]; omega)) ?_ | refine pick_own default (by first | omega | (simp only [LN]; omega)) ?_ | refine And.intro (by first | decide | omega | assumption | (simp only [LN]; omega)) ?_) | ((with_reducible show pickE _ _ _); first | refine pickE_intro _ ⟨by omega, by rfl⟩ ?_ | refine pickE_intro _ (by rfl) ?_) | fail); try simp -dsimp -implicitDefEqProofs (maxSteps := 1000000) (disch := first | omega | (simp only [LN]; omega)) only [go_sem])
  | fail)
set_option maxRecDepth 100000 in
set_option maxHeartbeats 4000000 in
theorem c49 (n : Int) (h : 0 ≤ n ∧ n ≤ 1000000) : ACalls Tryd.prog 77 [.p (.v (.slice none 0 0)), .p (.v (.int .i64 n))] [] (.sl 0 2 0 0) [.arr 2 []] := by
 refine acalls_of (E := E) (fn := Tryd.f77) 27 [.tmp 4] rfl rfl rfl rfl (by decide) rfl rfl ?_
 repeat' (first
  | (with_reducible first | refine r_seq ?_ | refine r_block ?_ | refine fork_not ?_ | refine fork_and ?_ | refine fork_or ?_ | refine chk_ok (by kernel_rfl) ?_)
  | ((with_reducible first | refine fork_dec ?_ ?_ | refine fork_eq ?_ ?_ | refine fork_ne ?_ ?_ | refine fork_intro ?_ ?_) <;> intro h)
  | ((with_reducible show False); omega)
  | ((first | (with_reducible first | refine r_exit ?_ | refine r_skip ?_ | refine r_cond ?_ | refine r_region ?_ | refine r_ret ?_ | show VX _ _ _ _ _ _ _ | show vstep _ _ _ _ _ | show vskip _ _ _ | show withV _ _) | ((with_reducible show endA _ _ _ _ _ _ _); simp -implicitDefEqProofs only [endA]) | (with_reducible first | refine pick_viewG default (by first | omega | (simp only [LN]; omega)) (by first | omega | (simp only [LN]; omega)) ?_ | refine pick_own default (by first | omega | (simp only [LN]; omega)) ?_ | refine And.intro (by first | decide | omega | assumption | (simp only [LN]; omega)) ?_) | ((with_reducible show pickE _ _ _); first | refine pickE_intro _ ⟨by omega, by rfl⟩ ?_ | refine pickE_intro _ (by rfl) ?_) | fail); try simp -dsimp -implicitDefEqProofs (maxSteps := 1000000) (disch := first | omega | (simp only [LN]; omega)) only [go_sem])
  | fail)
def eL1 (l : List Int) : PV := .view 1 (l.map eV)
def eL2 (l : List (Int × Int)) : PV := .view 2 (l.map eP)
@[go_sem] theorem pcells_L1 (l : List Int) : pcells (eL1 l) = some [eL1 l] := rfl
@[go_sem] theorem pcells_L2 (l : List (Int × Int)) : pcells (eL2 l) = some [eL2 l] := rfl
theorem flat_take {α : Type} {ls : List (List α)} {i : Nat} (h : i < ls.length) : (ls.take (i + 1)).flatten = (ls.take i).flatten ++ ls.getD i [] := by
 rw [take_getD [] h]; simp
theorem flat_take_len {α : Type} {ls : List (List α)} {i : Nat} (h : i < ls.length) : (ls.take (i + 1)).flatten.length = (ls.take i).flatten.length + (ls.getD i []).length := by
 rw [flat_take h, List.length_append]
theorem flat_take_le {α : Type} (ls : List (List α)) (i : Nat) : (ls.take i).flatten.length ≤ ls.flatten.length := by
 have : ls.flatten = (ls.take i).flatten ++ (ls.drop i).flatten := by rw [← List.flatten_append, List.take_append_drop]
 rw [this, List.length_append]; omega
theorem default_list {α : Type} : (default : List α) = [] := rfl
set_option maxRecDepth 100000 in
set_option maxHeartbeats 4000000 in
theorem c42 (ls : List (List Int)) (h0 : ls.flatten.length ≤ 100000) : PCalls Tryd.prog 45 [.view 1 (ls.map eL1)] (.view 1 (ls.flatten.map eV)) := by
 refine pcalls_facts ⟨_, rfl, rfl, by decide⟩ fun hf => ?_
 simp only [go_sem, big] at hf
 refine pcalls_of (E := E) (fn := Tryd.f45) 36 [.tmp 2] rfl rfl rfl rfl (by decide) rfl ?_
 repeat' (first
  | (with_reducible first | refine r_seq ?_ | refine r_block ?_ | refine fork_not ?_ | refine fork_and ?_ | refine fork_or ?_ | refine chk_ok (by kernel_rfl) ?_)
  | ((with_reducible first | refine fork_dec ?_ ?_ | refine fork_eq ?_ ?_ | refine fork_ne ?_ ?_ | refine fork_intro ?_ ?_) <;> intro h)
  | ((with_reducible show False); omega)
  | ((first | (with_reducible first | refine r_exit ?_ | refine r_skip ?_ | refine r_cond ?_ | refine r_region ?_ | refine r_ret ?_ | show VX _ _ _ _ _ _ _ | show vstep _ _ _ _ _ | show vskip _ _ _ | show withV _ _) | ((with_reducible show endA _ _ _ _ _ _ _); simp -implicitDefEqProofs only [endA]) | (with_reducible first | refine pick_viewG default (by first | omega | (simp only [LN, default_list, eL1]; omega)) (by first | omega | (simp only [LN, default_list, eL1]; omega)) ?_ | refine pick_own default (by first | omega | (simp only [LN, default_list, eL1]; omega)) ?_ | refine And.intro (by first | decide | omega | assumption | (simp only [LN, default_list, eL1]; omega)) ?_) | ((with_reducible show pickE _ _ _); first | refine pickE_intro _ ⟨by omega, by rfl⟩ ?_ | refine pickE_intro _ (by rfl) ?_) | fail); try simp -dsimp -implicitDefEqProofs (maxSteps := 1000000) (disch := first | omega | (simp only [LN, default_list, eL1]; omega)) only [go_sem, default_list, eL1])
  | fail)
 refine r_loopA (α := Nat) [0, 9, 10] (fun i b => [(3, aI (ls.take i).flatten.length), (11, aI i)]) (fun i b => []) (fun i => []) (fun i => i ≤ ls.length) (fun i => ls.length - i) (0) ?h0_1 ?hs0_1 ?I_1 ?hI_1 ?round_1
 case hI_1 => intro x; (simp -dsimp -implicitDefEqProofs (maxSteps := 1000000) (disch := first | omega | (simp only [LN]; omega)) only [go_sem]) <;> exact rfl
 case hs0_1 => refine wk_auto ?_; (simp -dsimp -implicitDefEqProofs (maxSteps := 1000000) (disch := first | omega | (simp only [LN, List.flatten_nil]; omega)) only [go_sem, List.flatten_nil]) <;> (try omega)
 case h0_1 => omega
 case round_1 =>
  intro i h1
  have hl := flat_take_le ls (i + 1)
  have hq := flat_take_le ls i
  by_cases hi : i < ls.length
  ·have hs := flat_take_len hi
   repeat' (first
    | (with_reducible first | refine r_seq ?_ | refine r_block ?_ | refine fork_not ?_ | refine fork_and ?_ | refine fork_or ?_ | refine chk_ok (by kernel_rfl) ?_)
    | ((with_reducible first | refine fork_dec ?_ ?_ | refine fork_eq ?_ ?_ | refine fork_ne ?_ ?_ | refine fork_intro ?_ ?_) <;> intro h <;> try (exfalso; first | omega | exact h rfl | (revert h; decide) | (cases h; done)))
    | ((with_reducible show False); omega)
    | ((first | (with_reducible first | refine r_exit ?_ | refine r_skip ?_ | refine r_cond ?_ | refine r_region ?_ | refine r_ret ?_ | show VX _ _ _ _ _ _ _ | show vstep _ _ _ _ _ | show vskip _ _ _ | show withV _ _) | ((with_reducible show endA _ _ _ _ _ _ _); simp -implicitDefEqProofs only [endA]) | (with_reducible first | refine pick_viewG default (by first | omega | (simp only [LN, default_list, eL1]; omega)) (by first | omega | (simp only [LN, default_list, eL1]; omega)) ?_ | refine pick_own default (by first | omega | (simp only [LN, default_list, eL1]; omega)) ?_ | refine And.intro (by first | decide | omega | assumption | (simp only [LN, default_list, eL1]; omega)) ?_) | ((with_reducible show pickE _ _ _); first | refine pickE_intro _ ⟨by omega, by rfl⟩ ?_ | refine pickE_intro _ (by rfl) ?_) | fail); try simp -dsimp -implicitDefEqProofs (maxSteps := 1000000) (disch := first | omega | (simp only [LN, default_list, eL1]; omega)) only [go_sem, default_list, eL1])
    | fail)
   all_goals first | (refine loopQ_next (i + 1) ?_ ?_ ?_; (omega); (show _ < _; omega); (simp -dsimp -implicitDefEqProofs (maxSteps := 1000000) (disch := first | omega | (simp only [LN, hs]; omega)) only [go_sem, hs]; try trivial)) | skip
  ·repeat' (first
    | (with_reducible first | refine r_seq ?_ | refine r_block ?_ | refine fork_not ?_ | refine fork_and ?_ | refine fork_or ?_ | refine chk_ok (by kernel_rfl) ?_)
    | ((with_reducible first | refine fork_dec ?_ ?_ | refine fork_eq ?_ ?_ | refine fork_ne ?_ ?_ | refine fork_intro ?_ ?_) <;> intro h <;> try (exfalso; first | omega | exact h rfl | (revert h; decide) | (cases h; done)))
    | ((with_reducible show False); omega)
    | ((first | (with_reducible first | refine r_exit ?_ | refine r_skip ?_ | refine r_cond ?_ | refine r_region ?_ | refine r_ret ?_ | show VX _ _ _ _ _ _ _ | show vstep _ _ _ _ _ | show vskip _ _ _ | show withV _ _) | ((with_reducible show endA _ _ _ _ _ _ _); simp -implicitDefEqProofs only [endA]) | (with_reducible first | refine pick_viewG default (by first | omega | (simp only [LN, default_list, eL1]; omega)) (by first | omega | (simp only [LN, default_list, eL1]; omega)) ?_ | refine pick_own default (by first | omega | (simp only [LN, default_list, eL1]; omega)) ?_ | refine And.intro (by first | decide | omega | assumption | (simp only [LN, default_list, eL1]; omega)) ?_) | (with_reducible first | apply callK_lent | apply callF_lent | apply hideP_own) | ((with_reducible apply callA_go); (first | exact c48 _ (by omega) | fail)) | ((with_reducible show pickE _ _ _); first | refine pickE_intro _ ⟨by omega, by rfl⟩ ?_ | refine pickE_intro _ (by rfl) ?_) | fail); try simp -dsimp -implicitDefEqProofs (maxSteps := 1000000) (disch := first | omega | (simp only [LN, default_list, eL1]; omega)) only [go_sem, default_list, eL1])
    | fail)
   refine r_loopA (α := Nat) [25, 26] (fun i b => [(6, .sl b 1 0 (ls.take i).flatten.length), (27, aI i)]) (fun i b => []) (fun i => [.arr 1 ((ls.take i).flatten.map eV)]) (fun i => i ≤ ls.length) (fun i => ls.length - i) (0) ?h0_2 ?hs0_2 ?I_2 ?hI_2 ?round_2
   case hI_2 => intro x; (simp -dsimp -implicitDefEqProofs (maxSteps := 1000000) (disch := first | omega | (simp only [LN]; omega)) only [go_sem]) <;> exact rfl
   case hs0_2 => refine wk_auto ?_; (simp -dsimp -implicitDefEqProofs (maxSteps := 1000000) (disch := first | omega | (simp only [LN, List.flatten_nil]; omega)) only [go_sem, List.flatten_nil]) <;> (try omega)
   case h0_2 => omega
   case round_2 =>
    intro i h1
    have hl := flat_take_le ls (i + 1)
    have hq := flat_take_le ls i
    by_cases hi : i < ls.length
    ·have hs := flat_take_len hi
     have ht := flat_take hi
     repeat' (first
      | (with_reducible first | refine r_seq ?_ | refine r_block ?_ | refine fork_not ?_ | refine fork_and ?_ | refine fork_or ?_ | refine chk_ok (by kernel_rfl) ?_)
      | ((with_reducible first | refine fork_dec ?_ ?_ | refine fork_eq ?_ ?_ | refine fork_ne ?_ ?_ | refine fork_intro ?_ ?_) <;> intro h <;> try (exfalso; first | omega | exact h rfl | (revert h; decide) | (cases h; done)))
      | ((with_reducible show False); omega)
      | ((first | (with_reducible first | refine r_exit ?_ | refine r_skip ?_ | refine r_cond ?_ | refine r_region ?_ | refine r_ret ?_ | show VX _ _ _ _ _ _ _ | show vstep _ _ _ _ _ | show vskip _ _ _ | show withV _ _) | ((with_reducible show endA _ _ _ _ _ _ _); simp -implicitDefEqProofs only [endA]) | (with_reducible first | refine pick_viewG default (by first | omega | (simp only [LN, default_list, eL1]; omega)) (by first | omega | (simp only [LN, default_list, eL1]; omega)) ?_ | refine pick_own default (by first | omega | (simp only [LN, default_list, eL1]; omega)) ?_ | refine And.intro (by first | decide | omega | assumption | (simp only [LN, default_list, eL1]; omega)) ?_) | ((with_reducible show pickE _ _ _); first | refine pickE_intro _ ⟨by omega, by rfl⟩ ?_ | refine pickE_intro _ (by rfl) ?_) | fail); try simp -dsimp -implicitDefEqProofs (maxSteps := 1000000) (disch := first | omega | (simp only [LN, default_list, eL1]; omega)) only [go_sem, default_list, eL1])
      | fail)
     all_goals first | (refine loopQ_next (i + 1) ?_ ?_ ?_; (omega); (show _ < _; omega); (simp -dsimp -implicitDefEqProofs (maxSteps := 1000000) (disch := first | omega | (simp only [LN, ht]; omega)) only [go_sem, ht]; try trivial)) | skip
    ·repeat' (first
      | (with_reducible first | refine r_seq ?_ | refine r_block ?_ | refine fork_not ?_ | refine fork_and ?_ | refine fork_or ?_ | refine chk_ok (by kernel_rfl) ?_)
      | ((with_reducible first | refine fork_dec ?_ ?_ | refine fork_eq ?_ ?_ | refine fork_ne ?_ ?_ | refine fork_intro ?_ ?_) <;> intro h <;> try (exfalso; first | omega | exact h rfl | (revert h; decide) | (cases h; done)))
      | ((with_reducible show False); omega)
      | ((first | (with_reducible first | refine r_exit ?_ | refine r_skip ?_ | refine r_cond ?_ | refine r_region ?_ | refine r_ret ?_ | show VX _ _ _ _ _ _ _ | show vstep _ _ _ _ _ | show vskip _ _ _ | show withV _ _) | ((with_reducible show endA _ _ _ _ _ _ _); simp -implicitDefEqProofs only [endA]) | (with_reducible first | refine pick_viewG default (by first | omega | (simp only [LN, default_list, eL1]; omega)) (by first | omega | (simp only [LN, default_list, eL1]; omega)) ?_ | refine pick_own default (by first | omega | (simp only [LN, default_list, eL1]; omega)) ?_ | refine And.intro (by first | decide | omega | assumption | (simp only [LN, default_list, eL1]; omega)) ?_) | ((with_reducible show pickE _ _ _); first | refine pickE_intro _ ⟨by omega, by rfl⟩ ?_ | refine pickE_intro _ (by rfl) ?_) | fail); try simp -dsimp -implicitDefEqProofs (maxSteps := 1000000) (disch := first | omega | (simp only [LN, default_list, eL1]; omega)) only [go_sem, default_list, eL1])
      | fail)
set_option maxRecDepth 100000 in
set_option maxHeartbeats 4000000 in
theorem c47 (ls : List (List (Int × Int))) (h0 : ls.flatten.length ≤ 100000) : PCalls Tryd.prog 61 [.view 1 (ls.map eL2)] (.view 2 (ls.flatten.map eP)) := by
 refine pcalls_facts ⟨_, rfl, rfl, by decide⟩ fun hf => ?_
 simp only [go_sem, big] at hf
 refine pcalls_of (E := E) (fn := Tryd.f61) 36 [.tmp 2] rfl rfl rfl rfl (by decide) rfl ?_
 repeat' (first
  | (with_reducible first | refine r_seq ?_ | refine r_block ?_ | refine fork_not ?_ | refine fork_and ?_ | refine fork_or ?_ | refine chk_ok (by kernel_rfl) ?_)
  | ((with_reducible first | refine fork_dec ?_ ?_ | refine fork_eq ?_ ?_ | refine fork_ne ?_ ?_ | refine fork_intro ?_ ?_) <;> intro h)
  | ((with_reducible show False); omega)
  | ((first | (with_reducible first | refine r_exit ?_ | refine r_skip ?_ | refine r_cond ?_ | refine r_region ?_ | refine r_ret ?_ | show VX _ _ _ _ _ _ _ | show vstep _ _ _ _ _ | show vskip _ _ _ | show withV _ _) | ((with_reducible show endA _ _ _ _ _ _ _); simp -implicitDefEqProofs only [endA]) | (with_reducible first | refine pick_viewG default (by first | omega | (simp only [LN, default_list, eL2]; omega)) (by first | omega | (simp only [LN, default_list, eL2]; omega)) ?_ | refine pick_own default (by first | omega | (simp only [LN, default_list, eL2]; omega)) ?_ | refine And.intro (by first | decide | omega | assumption | (simp only [LN, default_list, eL2]; omega)) ?_) | ((with_reducible show pickE _ _ _); first | refine pickE_intro _ ⟨by omega, by rfl⟩ ?_ | refine pickE_intro _ (by rfl) ?_) | fail); try simp -dsimp -implicitDefEqProofs (maxSteps := 1000000) (disch := first | omega | (simp only [LN, default_list, eL2]; omega)) only [go_sem, default_list, eL2])
  | fail)
 refine r_loopA (α := Nat) [0, 9, 10] (fun i b => [(3, aI (ls.take i).flatten.length), (11, aI i)]) (fun i b => []) (fun i => []) (fun i => i ≤ ls.length) (fun i => ls.length - i) (0) ?h0_3 ?hs0_3 ?I_3 ?hI_3 ?round_3
 case hI_3 => intro x; (simp -dsimp -implicitDefEqProofs (maxSteps := 1000000) (disch := first | omega | (simp only [LN]; omega)) only [go_sem]) <;> exact rfl
 case hs0_3 => refine wk_auto ?_; (simp -dsimp -implicitDefEqProofs (maxSteps := 1000000) (disch := first | omega | (simp only [LN, List.flatten_nil]; omega)) only [go_sem, List.flatten_nil]) <;> (try omega)
 case h0_3 => omega
 case round_3 =>
  intro i h1
  have hl := flat_take_le ls (i + 1)
  have hq := flat_take_le ls i
  by_cases hi : i < ls.length
  ·have hs := flat_take_len hi
   repeat' (first
    | (with_reducible first | refine r_seq ?_ | refine r_block ?_ | refine fork_not ?_ | refine fork_and ?_ | refine fork_or ?_ | refine chk_ok (by kernel_rfl) ?_)
    | ((with_reducible first | refine fork_dec ?_ ?_ | refine fork_eq ?_ ?_ | refine fork_ne ?_ ?_ | refine fork_intro ?_ ?_) <;> intro h <;> try (exfalso; first | omega | exact h rfl | (revert h; decide) | (cases h; done)))
    | ((with_reducible show False); omega)
    | ((first | (with_reducible first | refine r_exit ?_ | refine r_skip ?_ | refine r_cond ?_ | refine r_region ?_ | refine r_ret ?_ | show VX _ _ _ _ _ _ _ | show vstep _ _ _ _ _ | show vskip _ _ _ | show withV _ _) | ((with_reducible show endA _ _ _ _ _ _ _); simp -implicitDefEqProofs only [endA]) | (with_reducible first | refine pick_viewG default (by first | omega | (simp only [LN, default_list, eL2]; omega)) (by first | omega | (simp only [LN, default_list, eL2]; omega)) ?_ | refine pick_own default (by first | omega | (simp only [LN, default_list, eL2]; omega)) ?_ | refine And.intro (by first | decide | omega | assumption | (simp only [LN, default_list, eL2]; omega)) ?_) | ((with_reducible show pickE _ _ _); first | refine pickE_intro _ ⟨by omega, by rfl⟩ ?_ | refine pickE_intro _ (by rfl) ?_) | fail); try simp -dsimp -implicitDefEqProofs (maxSteps := 1000000) (disch := first | omega | (simp only [LN, default_list, eL2]; omega)) only [go_sem, default_list, eL2])
    | fail)
   all_goals first | (refine loopQ_next (i + 1) ?_ ?_ ?_; (omega); (show _ < _; omega); (simp -dsimp -implicitDefEqProofs (maxSteps := 1000000) (disch := first | omega | (simp only [LN, hs]; omega)) only [go_sem, hs]; try trivial)) | skip
  ·repeat' (first
    | (with_reducible first | refine r_seq ?_ | refine r_block ?_ | refine fork_not ?_ | refine fork_and ?_ | refine fork_or ?_ | refine chk_ok (by kernel_rfl) ?_)
    | ((with_reducible first | refine fork_dec ?_ ?_ | refine fork_eq ?_ ?_ | refine fork_ne ?_ ?_ | refine fork_intro ?_ ?_) <;> intro h <;> try (exfalso; first | omega | exact h rfl | (revert h; decide) | (cases h; done)))
    | ((with_reducible show False); omega)
    | ((first | (with_reducible first | refine r_exit ?_ | refine r_skip ?_ | refine r_cond ?_ | refine r_region ?_ | refine r_ret ?_ | show VX _ _ _ _ _ _ _ | show vstep _ _ _ _ _ | show vskip _ _ _ | show withV _ _) | ((with_reducible show endA _ _ _ _ _ _ _); simp -implicitDefEqProofs only [endA]) | (with_reducible first | refine pick_viewG default (by first | omega | (simp only [LN, default_list, eL2]; omega)) (by first | omega | (simp only [LN, default_list, eL2]; omega)) ?_ | refine pick_own default (by first | omega | (simp only [LN, default_list, eL2]; omega)) ?_ | refine And.intro (by first | decide | omega | assumption | (simp only [LN, default_list, eL2]; omega)) ?_) | (with_reducible first | apply callK_lent | apply callF_lent | apply hideP_own) | ((with_reducible apply callA_go); (first | exact c49 _ (by omega) | fail)) | ((with_reducible show pickE _ _ _); first | refine pickE_intro _ ⟨by omega, by rfl⟩ ?_ | refine pickE_intro _ (by rfl) ?_) | fail); try simp -dsimp -implicitDefEqProofs (maxSteps := 1000000) (disch := first | omega | (simp only [LN, default_list, eL2]; omega)) only [go_sem, default_list, eL2])
    | fail)
   refine r_loopA (α := Nat) [25, 26] (fun i b => [(6, .sl b 2 0 (ls.take i).flatten.length), (27, aI i)]) (fun i b => []) (fun i => [.arr 2 ((ls.take i).flatten.map eP)]) (fun i => i ≤ ls.length) (fun i => ls.length - i) (0) ?h0_4 ?hs0_4 ?I_4 ?hI_4 ?round_4
   case hI_4 => intro x; (simp -dsimp -implicitDefEqProofs (maxSteps := 1000000) (disch := first | omega | (simp only [LN]; omega)) only [go_sem]) <;> exact rfl
   case hs0_4 => refine wk_auto ?_; (simp -dsimp -implicitDefEqProofs (maxSteps := 1000000) (disch := first | omega | (simp only [LN, List.flatten_nil]; omega)) only [go_sem, List.flatten_nil]) <;> (try omega)
   case h0_4 => omega
   case round_4 =>
    intro i h1
    have hl := flat_take_le ls (i + 1)
    have hq := flat_take_le ls i
    by_cases hi : i < ls.length
    ·have hs := flat_take_len hi
     have ht := flat_take hi
     repeat' (first
      | (with_reducible first | refine r_seq ?_ | refine r_block ?_ | refine fork_not ?_ | refine fork_and ?_ | refine fork_or ?_ | refine chk_ok (by kernel_rfl) ?_)
      | ((with_reducible first | refine fork_dec ?_ ?_ | refine fork_eq ?_ ?_ | refine fork_ne ?_ ?_ | refine fork_intro ?_ ?_) <;> intro h <;> try (exfalso; first | omega | exact h rfl | (revert h; decide) | (cases h; done)))
      | ((with_reducible show False); omega)
      | ((first | (with_reducible first | refine r_exit ?_ | refine r_skip ?_ | refine r_cond ?_ | refine r_region ?_ | refine r_ret ?_ | show VX _ _ _ _ _ _ _ | show vstep _ _ _ _ _ | show vskip _ _ _ | show withV _ _) | ((with_reducible show endA _ _ _ _ _ _ _); simp -implicitDefEqProofs only [endA]) | (with_reducible first | refine pick_viewG default (by first | omega | (simp only [LN, default_list, eL2]; omega)) (by first | omega | (simp only [LN, default_list, eL2]; omega)) ?_ | refine pick_own default (by first | omega | (simp only [LN, default_list, eL2]; omega)) ?_ | refine And.intro (by first | decide | omega | assumption | (simp only [LN, default_list, eL2]; omega)) ?_) | ((with_reducible show pickE _ _ _); first | refine pickE_intro _ ⟨by omega, by rfl⟩ ?_ | refine pickE_intro _ (by rfl) ?_) | fail); try simp -dsimp -implicitDefEqProofs (maxSteps := 1000000) (disch := first | omega | (simp only [LN, default_list, eL2]; omega)) only [go_sem, default_list, eL2])
      | fail)
     all_goals first | (refine loopQ_next (i + 1) ?_ ?_ ?_; (omega); (show _ < _; omega); (simp -dsimp -implicitDefEqProofs (maxSteps := 1000000) (disch := first | omega | (simp only [LN, ht]; omega)) only [go_sem, ht]; try trivial)) | skip
    ·repeat' (first
      | (with_reducible first | refine r_seq ?_ | refine r_block ?_ | refine fork_not ?_ | refine fork_and ?_ | refine fork_or ?_ | refine chk_ok (by kernel_rfl) ?_)
      | ((with_reducible first | refine fork_dec ?_ ?_ | refine fork_eq ?_ ?_ | refine fork_ne ?_ ?_ | refine fork_intro ?_ ?_) <;> intro h <;> try (exfalso; first | omega | exact h rfl | (revert h; decide) | (cases h; done)))
      | ((with_reducible show False); omega)
      | ((first | (with_reducible first | refine r_exit ?_ | refine r_skip ?_ | refine r_cond ?_ | refine r_region ?_ | refine r_ret ?_ | show VX _ _ _ _ _ _ _ | show vstep _ _ _ _ _ | show vskip _ _ _ | show withV _ _) | ((with_reducible show endA _ _ _ _ _ _ _); simp -implicitDefEqProofs only [endA]) | (with_reducible first | refine pick_viewG default (by first | omega | (simp only [LN, default_list, eL2]; omega)) (by first | omega | (simp only [LN, default_list, eL2]; omega)) ?_ | refine pick_own default (by first | omega | (simp only [LN, default_list, eL2]; omega)) ?_ | refine And.intro (by first | decide | omega | assumption | (simp only [LN, default_list, eL2]; omega)) ?_) | ((with_reducible show pickE _ _ _); first | refine pickE_intro _ ⟨by omega, by rfl⟩ ?_ | refine pickE_intro _ (by rfl) ?_) | fail); try simp -dsimp -implicitDefEqProofs (maxSteps := 1000000) (disch := first | omega | (simp only [LN, default_list, eL2]; omega)) only [go_sem, default_list, eL2])
      | fail)
set_option maxRecDepth 100000 in
set_option maxHeartbeats 4000000 in
theorem c41 (l : List (Int × Int)) (i : Nat) (w : Bool) (ps : List (Int × Int)) (h0 : l.length ≤ 10000) (h1 : ps.length ≤ 10000) (h2 : i + (if w then 1 else 0) ≤ l.length) : PCalls Tryd.prog 44 [.view 2 (l.map eP), .v (.int .i64 i), .v (.bool w), .view 2 (ps.map eP)] (.view 2 ((l.take i ++ (ps ++ l.drop (i + (if w then 1 else 0)))).map eP)) := by
 refine pcalls_facts ⟨_, rfl, rfl, by decide⟩ fun hf => ?_
 simp only [go_sem, big] at hf
 refine pcalls_of (E := E) (fn := Tryd.f44) 23 [.tmp 8] rfl rfl rfl rfl (by decide) rfl ?_
 cases w
 ·simp only [Bool.false_eq_true, if_false, Nat.add_zero] at h2 ⊢
  have e : ([l.take i, ps, l.drop i].flatten).length ≤ 100000 := by simp [List.length_take, List.length_drop]; omega
  repeat' (first
   | (with_reducible first | refine r_seq ?_ | refine r_block ?_ | refine fork_not ?_ | refine fork_and ?_ | refine fork_or ?_ | refine chk_ok (by kernel_rfl) ?_)
   | ((with_reducible first | refine fork_dec ?_ ?_ | refine fork_eq ?_ ?_ | refine fork_ne ?_ ?_ | refine fork_intro ?_ ?_) <;> intro h <;> try (exfalso; first | omega | exact h rfl | (revert h; decide) | (cases h; done)))
   | ((with_reducible show False); omega)
   | ((first | (with_reducible first | refine r_exit ?_ | refine r_skip ?_ | refine r_cond ?_ | refine r_region ?_ | refine r_ret ?_ | show VX _ _ _ _ _ _ _ | show vstep _ _ _ _ _ | show vskip _ _ _ | show withV _ _) | ((with_reducible show endA _ _ _ _ _ _ _); simp -implicitDefEqProofs only [endA]) | (with_reducible first | refine pick_viewG default (by first | omega | (simp only [LN]; omega)) (by first | omega | (simp only [LN]; omega)) ?_ | refine pick_own default (by first | omega | (simp only [LN]; omega)) ?_ | refine And.intro (by first | decide | omega | assumption | (simp only [LN]; omega)) ?_) | ((with_reducible apply callK_pure); (exact c47 [l.take i, ps, l.drop i] e)) | ((with_reducible apply callF_lend); (exact c47 [l.take i, ps, l.drop i] e); rfl) | ((with_reducible apply callF_go); (exact c47 [l.take i, ps, l.drop i] e)) | ((with_reducible show pickE _ _ _); first | refine pickE_intro _ ⟨by omega, by rfl⟩ ?_ | refine pickE_intro _ (by rfl) ?_) | fail); try simp -dsimp -implicitDefEqProofs (maxSteps := 1000000) (disch := first | omega | (simp only [LN]; omega)) only [go_sem])
   | fail)
  all_goals simp [List.flatten]
 ·simp only [if_true] at h2 ⊢
  have e : ([l.take i, ps, l.drop (i + 1)].flatten).length ≤ 100000 := by simp [List.length_take, List.length_drop]; omega
  repeat' (first
   | (with_reducible first | refine r_seq ?_ | refine r_block ?_ | refine fork_not ?_ | refine fork_and ?_ | refine fork_or ?_ | refine chk_ok (by kernel_rfl) ?_)
   | ((with_reducible first | refine fork_dec ?_ ?_ | refine fork_eq ?_ ?_ | refine fork_ne ?_ ?_ | refine fork_intro ?_ ?_) <;> intro h <;> try (exfalso; first | omega | exact h rfl | (revert h; decide) | (cases h; done)))
   | ((with_reducible show False); omega)
   | ((first | (with_reducible first | refine r_exit ?_ | refine r_skip ?_ | refine r_cond ?_ | refine r_region ?_ | refine r_ret ?_ | show VX _ _ _ _ _ _ _ | show vstep _ _ _ _ _ | show vskip _ _ _ | show withV _ _) | ((with_reducible show endA _ _ _ _ _ _ _); simp -implicitDefEqProofs only [endA]) | (with_reducible first | refine pick_viewG default (by first | omega | (simp only [LN]; omega)) (by first | omega | (simp only [LN]; omega)) ?_ | refine pick_own default (by first | omega | (simp only [LN]; omega)) ?_ | refine And.intro (by first | decide | omega | assumption | (simp only [LN]; omega)) ?_) | ((with_reducible apply callK_pure); (exact c47 [l.take i, ps, l.drop (i + 1)] e)) | ((with_reducible apply callF_lend); (exact c47 [l.take i, ps, l.drop (i + 1)] e); rfl) | ((with_reducible apply callF_go); (exact c47 [l.take i, ps, l.drop (i + 1)] e)) | ((with_reducible show pickE _ _ _); first | refine pickE_intro _ ⟨by omega, by rfl⟩ ?_ | refine pickE_intro _ (by rfl) ?_) | fail); try simp -dsimp -implicitDefEqProofs (maxSteps := 1000000) (disch := first | omega | (simp only [LN]; omega)) only [go_sem])
   | fail)
  all_goals simp [List.flatten]
def lbM : List (Int × Int) → Int → Nat
 | [], _ => 0
 | p :: t, k => if p.1 < k then lbM t k + 1 else 0
theorem lb_le : ∀ (l : List (Int × Int)) k, lbM l k ≤ l.length
 | [], _ => Nat.le_refl _
 | p :: t, k => by simp only [lbM]; split <;> simp [lb_le t k]
theorem lb_eq : ∀ (l : List (Int × Int)) k (i : Nat), i ≤ l.length → (∀ m, m < i → (l.getD m default).1 < k) → (∀ m, i = m → m < l.length → k ≤ (l.getD m default).1) → lbM l k = i
 | [], k, i, h, _, _ => by simp at h; subst h; rfl
 | p :: t, k, 0, _, _, h => by
  have := h 0 rfl (by simp)
  simp only [List.getD_cons_zero] at this
  simp only [lbM]; rw [if_neg (by omega)]
 | p :: t, k, i + 1, hi, h1, h2 => by
  have := h1 0 (by omega)
  simp only [List.getD_cons_zero] at this
  simp only [lbM]; rw [if_pos this]
  rw [lb_eq t k i (by simpa using hi) (fun m hm => by simpa using h1 (m + 1) (by omega)) (fun m hm hl => by simpa using h2 (m + 1) (by omega) (by simpa using hl))]
def hasM (l : List (Int × Int)) (k : Int) : Bool := decide (lbM l k < l.length ∧ (l.getD (lbM l k) default).1 = k)
def SortedM (l : List (Int × Int)) : Prop := ∀ i j, i < j → j < l.length → (l.getD i default).1 < (l.getD j default).1
theorem cmp_lt {x y : Int} : cmpM x y < 0 ↔ x < y := by unfold cmpM; split <;> (try split) <;> omega
theorem cmp_eq {x y : Int} : cmpM x y = 0 ↔ x = y := by unfold cmpM; split <;> (try split) <;> omega
set_option maxRecDepth 100000 in
set_option maxHeartbeats 4000000 in
theorem c38 (l : List (Int × Int)) (k : Int) (hs : SortedM l) : PCalls Tryd.prog 41 [.view 2 (l.map eP), .v (.int .u64 k), .fn 42 []] (.tup [.v (.int .i64 (lbM l k)), .v (.bool (hasM l k))]) := by
 refine pcalls_facts ⟨_, rfl, rfl, by decide⟩ fun hf => ?_
 simp only [go_sem, big] at hf
 refine pcalls_of (E := E) (fn := Tryd.f41) 49 [.tmp 6, .tmp 7] rfl rfl rfl rfl (by decide) rfl ?_
 repeat' (first
  | (with_reducible first | refine r_seq ?_ | refine r_block ?_ | refine fork_not ?_ | refine fork_and ?_ | refine fork_or ?_ | refine chk_ok (by kernel_rfl) ?_)
  | ((with_reducible first | refine fork_dec ?_ ?_ | refine fork_eq ?_ ?_ | refine fork_ne ?_ ?_ | refine fork_intro ?_ ?_) <;> intro h)
  | ((with_reducible show False); omega)
  | ((first | (with_reducible first | refine r_exit ?_ | refine r_skip ?_ | refine r_cond ?_ | refine r_region ?_ | refine r_ret ?_ | show VX _ _ _ _ _ _ _ | show vstep _ _ _ _ _ | show vskip _ _ _ | show withV _ _) | ((with_reducible show endA _ _ _ _ _ _ _); simp -implicitDefEqProofs only [endA]) | (with_reducible first | refine pick_viewG default (by first | omega | (simp only [LN]; omega)) (by first | omega | (simp only [LN]; omega)) ?_ | refine pick_own default (by first | omega | (simp only [LN]; omega)) ?_ | refine And.intro (by first | decide | omega | assumption | (simp only [LN]; omega)) ?_) | ((with_reducible apply callK_pure); (exact c39 _ _)) | ((with_reducible apply callF_lend); (exact c39 _ _); rfl) | ((with_reducible apply callF_go); (exact c39 _ _)) | ((with_reducible show pickE _ _ _); first | refine pickE_intro _ ⟨by omega, by rfl⟩ ?_ | refine pickE_intro _ (by rfl) ?_) | fail); try simp -dsimp -implicitDefEqProofs (maxSteps := 1000000) (disch := first | omega | (simp only [LN]; omega)) only [go_sem])
  | fail)
 refine r_loopA (α := Nat × Nat) [0, 1, 2, 8] (fun x b => [(9, aI x.1), (10, aI x.2)]) (fun x b => []) (fun x => []) (fun x => x.1 ≤ x.2 ∧ x.2 ≤ l.length ∧ (∀ m, m < x.1 → (l.getD m default).1 < k) ∧ (∀ m, x.2 ≤ m → m < l.length → k ≤ (l.getD m default).1)) (fun x => x.2 - x.1) ((0, l.length)) ?h0_5 ?hs0_5 ?I_5 ?hI_5 ?round_5
 case hI_5 => intro x; (simp -dsimp -implicitDefEqProofs (maxSteps := 1000000) (disch := first | omega | (simp only [LN]; omega)) only [go_sem]) <;> exact rfl
 case hs0_5 => refine wk_auto ?_; (simp -dsimp -implicitDefEqProofs (maxSteps := 1000000) (disch := first | omega | (simp only [LN]; omega)) only [go_sem]) <;> (try omega)
 case h0_5 => exact ⟨Nat.zero_le _, Nat.le_refl _, fun m hm => by omega, fun m h1 h2 => by omega⟩
 case round_5 =>
  rintro ⟨i, j⟩ ⟨h1, h2, h3, h4⟩
  dsimp only at h1 h2 h3 h4
  repeat' (first
   | (with_reducible first | refine r_seq ?_ | refine r_block ?_ | refine fork_not ?_ | refine fork_and ?_ | refine fork_or ?_ | refine chk_ok (by kernel_rfl) ?_)
   | ((with_reducible first | refine fork_dec ?_ ?_ | refine fork_eq ?_ ?_ | refine fork_ne ?_ ?_ | refine fork_intro ?_ ?_) <;> intro h <;> try (exfalso; first | omega | exact h rfl | (revert h; decide) | (cases h; done)))
   | ((with_reducible show False); omega)
   | ((first | (with_reducible first | refine r_exit ?_ | refine r_skip ?_ | refine r_cond ?_ | refine r_region ?_ | refine r_ret ?_ | show VX _ _ _ _ _ _ _ | show vstep _ _ _ _ _ | show vskip _ _ _ | show withV _ _) | ((with_reducible show endA _ _ _ _ _ _ _); simp -implicitDefEqProofs only [endA]) | (with_reducible first | refine pick_viewG default (by first | omega | (simp only [LN, wrap_u64]; omega)) (by first | omega | (simp only [LN, wrap_u64]; omega)) ?_ | refine pick_own default (by first | omega | (simp only [LN, wrap_u64]; omega)) ?_ | refine And.intro (by first | decide | omega | assumption | (simp only [LN, wrap_u64]; omega)) ?_) | ((with_reducible apply callK_pure); (exact c39 _ _)) | ((with_reducible apply callF_lend); (exact c39 _ _); rfl) | ((with_reducible apply callF_go); (exact c39 _ _)) | ((with_reducible show pickE _ _ _); first | refine pickE_intro _ ⟨by omega, by rfl⟩ ?_ | refine pickE_intro _ (by rfl) ?_) | fail); try simp -dsimp -implicitDefEqProofs (maxSteps := 1000000) (disch := first | omega | (simp only [LN, wrap_u64]; omega)) only [go_sem, wrap_u64])
   | fail)
  ·have hm : (i + j) / 2 < l.length := by omega
   have hc := cmp_lt.1 h
   (refine loopQ_next (((i + j) / 2 + 1, j)) ?_ ?_ ?_; ((refine ⟨by dsimp only; omega, h2, fun m hm' => ?_, h4⟩; dsimp only at hm'; rcases Nat.lt_or_ge m ((i + j) / 2) with h' | h'; (exact Int.lt_trans (hs m _ h' hm) hc); (have : m = (i + j) / 2 := by omega); rw [this]; exact hc)); (show _ < _; omega); (simp -dsimp -implicitDefEqProofs (maxSteps := 1000000) (disch := first | omega | (simp only [LN]; omega)) only [go_sem]; try trivial))
  ·have hm : (i + j) / 2 < l.length := by omega
   have hc : k ≤ (l.getD ((i + j) / 2) default).1 := by rw [cmp_lt] at h; omega
   (refine loopQ_next ((i, (i + j) / 2)) ?_ ?_ ?_; ((refine ⟨by dsimp only; omega, by dsimp only; omega, h3, fun m hm' hl => ?_⟩; dsimp only at hm'; rcases Nat.lt_or_ge ((i + j) / 2) m with h' | h'; (exact Int.le_of_lt (Int.lt_of_le_of_lt hc (hs _ m h' hl))); (have : m = (i + j) / 2 := by omega); rw [this]; exact hc)); (show _ < _; omega); (simp -dsimp -implicitDefEqProofs (maxSteps := 1000000) (disch := first | omega | (simp only [LN]; omega)) only [go_sem]; try trivial))
  ·have e := lb_eq l k i (by omega) h3 (fun m hm hl => h4 m (by omega) hl)
   simp only [hasM, e]
   refine ⟨trivial, ?_⟩
   congr 1
   rw [Bool.eq_iff_iff]
   simp only [beq_iff_eq, cmp_eq, decide_eq_true_eq]
   exact ⟨fun h => ⟨by omega, h⟩, fun h => h.2⟩
  ·have e := lb_eq l k i (by omega) h3 (fun m hm hl => h4 m (by omega) hl)
   simp only [hasM, e]
   refine ⟨trivial, ?_⟩
   simp; omega
theorem c41n (l : List (Int × Int)) (i : Nat) (w : Bool) (h0 : l.length ≤ 10000) (h2 : i + (if w then 1 else 0) ≤ l.length) : PCalls Tryd.prog 44 [.view 2 (l.map eP), .v (.int .i64 i), .v (.bool w), .v (.slice none 0 0)] (.view 2 ((l.take i ++ ([] ++ l.drop (i + (if w then 1 else 0)))).map eP)) :=
 pcalls_le (by simp [PLes, PLe, PLe_self]) (c41 l i w [] h0 (by simp) h2)
def replM (l : List (Int × Int)) (i : Nat) (w : Bool) (ps : List (Int × Int)) : List (Int × Int) := l.take i ++ (ps ++ l.drop (i + (if w then 1 else 0)))
def mapM (s : S) (o : O) : S × R :=
 if (o.c = 4 ∨ o.c = 6 ∨ o.c = 3) ∧ hasM s.ps o.key = false then (s, ⟨0, false, 5⟩) else
 if o.c = 4 then (s, ⟨(if hasM s.ps o.key then (s.ps.getD (lbM s.ps o.key) default).2 else 0), true, 0⟩) else
 if o.c = 5 then ({ s with ps := replM s.ps (lbM s.ps o.key) (hasM s.ps o.key) [(o.key, o.val)] }, ⟨(if hasM s.ps o.key then (s.ps.getD (lbM s.ps o.key) default).2 else 0), true, 0⟩) else
 if o.c = 6 then ({ s with ps := replM s.ps (lbM s.ps o.key) true [] }, ⟨(if hasM s.ps o.key then (s.ps.getD (lbM s.ps o.key) default).2 else 0), true, 0⟩) else
 if o.c = 3 then (if (s.ps.getD (lbM s.ps o.key) default).2 = o.old then ({ s with ps := replM s.ps (lbM s.ps o.key) true [(o.key, o.val)] }, ⟨o.old, true, 0⟩) else (s, ⟨(s.ps.getD (lbM s.ps o.key) default).2, false, 6⟩)) else (s, ⟨0, false, 13⟩)
theorem has_lt {l : List (Int × Int)} {k : Int} (h : hasM l k = true) : lbM l k < l.length := by
 simp only [hasM, decide_eq_true_eq] at h; exact h.1
set_option maxRecDepth 100000 in
set_option maxHeartbeats 4000000 in
theorem c28 (s : S) (o : O) (hs : SortedM s.ps) (h0 : s.ps.length ≤ 10000) : PCalls Tryd.prog 24 [eS s, eO o] (.tup [eS (mapM s o).1, eR (mapM s o).2]) := by
 refine pcalls_facts ⟨_, rfl, rfl, by decide⟩ fun hf => ?_
 simp only [go_sem, big] at hf
 refine pcalls_of (E := E) (fn := Tryd.f24) 94 [.cell 4 32, .cell 5 47] rfl rfl rfl rfl (by decide) rfl ?_
 have hle := lb_le s.ps o.key
 cases hf : hasM s.ps o.key
 ·repeat' (first
   | (with_reducible first | refine r_seq ?_ | refine r_block ?_ | refine fork_not ?_ | refine fork_and ?_ | refine fork_or ?_ | refine chk_ok (by kernel_rfl) ?_)
   | ((with_reducible first | refine fork_dec ?_ ?_ | refine fork_eq ?_ ?_ | refine fork_ne ?_ ?_ | refine fork_intro ?_ ?_) <;> intro h)
   | ((with_reducible show False); omega)
   | ((first | (with_reducible first | refine r_exit ?_ | refine r_skip ?_ | refine r_cond ?_ | refine r_region ?_ | refine r_ret ?_ | show VX _ _ _ _ _ _ _ | show vstep _ _ _ _ _ | show vskip _ _ _ | show withV _ _) | ((with_reducible show endA _ _ _ _ _ _ _); simp -implicitDefEqProofs only [endA]) | (with_reducible first | refine pick_viewG default (by first | omega | (simp only [LN, hf]; omega)) (by first | omega | (simp only [LN, hf]; omega)) ?_ | refine pick_own default (by first | omega | (simp only [LN, hf]; omega)) ?_ | refine And.intro (by first | decide | omega | assumption | (simp only [LN, hf]; omega)) ?_) | ((with_reducible apply callK_pure); (first | exact c38 _ _ hs | exact c31 _ _ | exact c30 _ | exact c41 _ _ false [(o.key, o.val)] (by assumption) (by simp) (by simpa using hle) | fail)) | ((with_reducible apply callF_lend); (first | exact c38 _ _ hs | exact c31 _ _ | exact c30 _ | exact c41 _ _ false [(o.key, o.val)] (by assumption) (by simp) (by simpa using hle) | fail); rfl) | ((with_reducible apply callF_go); (first | exact c38 _ _ hs | exact c31 _ _ | exact c30 _ | exact c41 _ _ false [(o.key, o.val)] (by assumption) (by simp) (by simpa using hle) | fail)) | ((with_reducible show pickE _ _ _); first | refine pickE_intro _ ⟨by omega, by rfl⟩ ?_ | refine pickE_intro _ (by rfl) ?_) | fail); try simp -dsimp -implicitDefEqProofs (maxSteps := 1000000) (disch := first | omega | (simp only [LN, hf]; omega)) only [go_sem, hf])
   | fail)
  all_goals simp_all [mapM, replM, eP]
 ·have hlt := has_lt hf
  have e1 := c41 s.ps (lbM s.ps o.key) true [(o.key, o.val)] h0 (by simp) (by simp; omega)
  have e2 := c41n s.ps (lbM s.ps o.key) true h0 (by simp; omega)
  repeat' (first
   | (with_reducible first | refine r_seq ?_ | refine r_block ?_ | refine fork_not ?_ | refine fork_and ?_ | refine fork_or ?_ | refine chk_ok (by kernel_rfl) ?_)
   | ((with_reducible first | refine fork_dec ?_ ?_ | refine fork_eq ?_ ?_ | refine fork_ne ?_ ?_ | refine fork_intro ?_ ?_) <;> intro h)
   | ((with_reducible show False); omega)
   | ((first | (with_reducible first | refine r_exit ?_ | refine r_skip ?_ | refine r_cond ?_ | refine r_region ?_ | refine r_ret ?_ | show VX _ _ _ _ _ _ _ | show vstep _ _ _ _ _ | show vskip _ _ _ | show withV _ _) | ((with_reducible show endA _ _ _ _ _ _ _); simp -implicitDefEqProofs only [endA]) | (with_reducible first | refine pick_viewG default (by first | omega | (simp only [LN, hf]; omega)) (by first | omega | (simp only [LN, hf]; omega)) ?_ | refine pick_own default (by first | omega | (simp only [LN, hf]; omega)) ?_ | refine And.intro (by first | decide | omega | assumption | (simp only [LN, hf]; omega)) ?_) | ((with_reducible apply callK_pure); (first | exact c38 _ _ hs | exact c31 _ _ | exact c30 _ | exact e1 | exact e2 | fail)) | ((with_reducible apply callF_lend); (first | exact c38 _ _ hs | exact c31 _ _ | exact c30 _ | exact e1 | exact e2 | fail); rfl) | ((with_reducible apply callF_go); (first | exact c38 _ _ hs | exact c31 _ _ | exact c30 _ | exact e1 | exact e2 | fail)) | ((with_reducible show pickE _ _ _); first | refine pickE_intro _ ⟨by omega, by rfl⟩ ?_ | refine pickE_intro _ (by rfl) ?_) | fail); try simp -dsimp -implicitDefEqProofs (maxSteps := 1000000) (disch := first | omega | (simp only [LN, hf]; omega)) only [go_sem, hf])
   | fail)
  all_goals simp_all [mapM, replM, eP]
def queM (s : S) (o : O) : S × R :=
 if o.c = 7 then ({ s with vs := s.vs ++ [o.val] }, ⟨o.val, true, 0⟩) else
 if o.c = 8 then (if s.vs.length = 0 then (s, ⟨0, false, 5⟩) else ({ s with vs := s.vs.drop 1 }, ⟨s.vs.getD 0 0, true, 0⟩)) else (s, ⟨0, false, 13⟩)
set_option maxRecDepth 100000 in
set_option maxHeartbeats 4000000 in
theorem c29 (s : S) (o : O) (h0 : s.vs.length ≤ 10000) : PCalls Tryd.prog 25 [eS s, eO o] (.tup [eS (queM s o).1, eR (queM s o).2]) := by
 refine pcalls_facts ⟨_, rfl, rfl, by decide⟩ fun hf => ?_
 simp only [go_sem, big] at hf
 refine pcalls_of (E := E) (fn := Tryd.f25) 44 [.cell 4 32, .cell 5 47] rfl rfl rfl rfl (by decide) rfl ?_
 repeat' (first
  | (with_reducible first | refine r_seq ?_ | refine r_block ?_ | refine fork_not ?_ | refine fork_and ?_ | refine fork_or ?_ | refine chk_ok (by kernel_rfl) ?_)
  | ((with_reducible first | refine fork_dec ?_ ?_ | refine fork_eq ?_ ?_ | refine fork_ne ?_ ?_ | refine fork_intro ?_ ?_) <;> intro h)
  | ((with_reducible show False); omega)
  | ((first | (with_reducible first | refine r_exit ?_ | refine r_skip ?_ | refine r_cond ?_ | refine r_region ?_ | refine r_ret ?_ | show VX _ _ _ _ _ _ _ | show vstep _ _ _ _ _ | show vskip _ _ _ | show withV _ _) | ((with_reducible show endA _ _ _ _ _ _ _); simp -implicitDefEqProofs only [endA]) | (with_reducible first | refine pick_viewG default (by first | omega | (simp only [LN, default_int]; omega)) (by first | omega | (simp only [LN, default_int]; omega)) ?_ | refine pick_own default (by first | omega | (simp only [LN, default_int]; omega)) ?_ | refine And.intro (by first | decide | omega | assumption | (simp only [LN, default_int]; omega)) ?_) | ((with_reducible apply callK_pure); (first | exact c42 [s.vs, [o.val]] (by simp; omega) | exact c31 _ _ | exact c30 _ | fail)) | ((with_reducible apply callF_lend); (first | exact c42 [s.vs, [o.val]] (by simp; omega) | exact c31 _ _ | exact c30 _ | fail); rfl) | ((with_reducible apply callF_go); (first | exact c42 [s.vs, [o.val]] (by simp; omega) | exact c31 _ _ | exact c30 _ | fail)) | ((with_reducible show pickE _ _ _); first | refine pickE_intro _ ⟨by omega, by rfl⟩ ?_ | refine pickE_intro _ (by rfl) ?_) | fail); try simp -dsimp -implicitDefEqProofs (maxSteps := 1000000) (disch := first | omega | (simp only [LN, default_int]; omega)) only [go_sem, default_int])
  | fail)
 all_goals simp_all [queM]
def applyM (s : S) (o : O) : S × R :=
 if s.k = 1 then regM s o else if s.k = 2 then mapM s o else if s.k = 3 then queM s o else
 if s.k = 4 then (if o.c = 1 then (s, ⟨s.n, true, 0⟩) else if o.c = 9 then ({ s with n := IntKind.u64.wrap (s.n + o.val) }, ⟨IntKind.u64.wrap (s.n + o.val), true, 0⟩) else (s, ⟨0, false, 13⟩)) else (s, ⟨0, false, 13⟩)
set_option maxRecDepth 100000 in
set_option maxHeartbeats 4000000 in
theorem c12 (s : S) (o : O) (hs : SortedM s.ps) (h0 : s.ps.length ≤ 10000) (h1 : s.vs.length ≤ 10000) : PCalls Tryd.prog 12 [eS s, eO o] (.tup [eS (applyM s o).1, eR (applyM s o).2]) := by
 refine pcalls_facts ⟨_, rfl, rfl, by decide⟩ fun hf => ?_
 simp only [go_sem, big] at hf
 refine pcalls_of (E := E) (fn := Tryd.f12) 53 [.cell 4 32, .cell 5 47] rfl rfl rfl rfl (by decide) rfl ?_
 repeat' (first
  | (with_reducible first | refine r_seq ?_ | refine r_block ?_ | refine fork_not ?_ | refine fork_and ?_ | refine fork_or ?_ | refine chk_ok (by kernel_rfl) ?_)
  | ((with_reducible first | refine fork_dec ?_ ?_ | refine fork_eq ?_ ?_ | refine fork_ne ?_ ?_ | refine fork_intro ?_ ?_) <;> intro h)
  | ((with_reducible show False); omega)
  | ((first | (with_reducible first | refine r_exit ?_ | refine r_skip ?_ | refine r_cond ?_ | refine r_region ?_ | refine r_ret ?_ | show VX _ _ _ _ _ _ _ | show vstep _ _ _ _ _ | show vskip _ _ _ | show withV _ _) | ((with_reducible show endA _ _ _ _ _ _ _); simp -implicitDefEqProofs only [endA]) | (with_reducible first | refine pick_viewG default (by first | omega | (simp only [LN]; omega)) (by first | omega | (simp only [LN]; omega)) ?_ | refine pick_own default (by first | omega | (simp only [LN]; omega)) ?_ | refine And.intro (by first | decide | omega | assumption | (simp only [LN]; omega)) ?_) | ((with_reducible apply callK_pure); (first | exact c27 s o | exact c28 s o hs h0 | exact c29 s o h1 | exact c30 _ | exact c31 _ _ | fail)) | ((with_reducible apply callF_lend); (first | exact c27 s o | exact c28 s o hs h0 | exact c29 s o h1 | exact c30 _ | exact c31 _ _ | fail); rfl) | ((with_reducible apply callF_go); (first | exact c27 s o | exact c28 s o hs h0 | exact c29 s o h1 | exact c30 _ | exact c31 _ _ | fail)) | ((with_reducible show pickE _ _ _); first | refine pickE_intro _ ⟨by omega, by rfl⟩ ?_ | refine pickE_intro _ (by rfl) ?_) | fail); try simp -dsimp -implicitDefEqProofs (maxSteps := 1000000) (disch := first | omega | (simp only [LN]; omega)) only [go_sem])
  | fail)
 all_goals simp_all [applyM]
end Go.Proofs.YtpcjeaaplidmaaaDoor.Sp