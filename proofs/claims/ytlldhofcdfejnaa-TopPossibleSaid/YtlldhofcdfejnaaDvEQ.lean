/- Contracts of functions of this program, and the plain facts that they rest on. No conditions. -/
import Derived.Test.YtlldhofcdfejnaaDvAQ
set_option linter.unusedSimpArgs false
set_option linter.unusedVariables false
namespace Go.Proofs.Ytlldhofcdfejnaa
open Go Go.Ab
attribute [local irreducible] callK callF loopQ vstep vskip pickE hideP
set_option maxRecDepth 100000
theorem appL_nil (ws : List Int) : appL ws [] = ws := rfl
theorem appL_step (ws : List Int) (l : List (Int × Int)) (i : Nat) (hi : i < l.length) : ((appL ws (l.take i)).map eU).set ((l.getD i default).1 / 8).toNat (.v (.int .u64 (l.getD i default).2)) = (appL ws (l.take (i + 1))).map eU := by
 rw [take_getD default hi, appL_app]
 show _ = ((appL ws (l.take i)).set _ _).map eU
 rw [List.map_set]; rfl
theorem pick_row {j l : List (Int × Int)} {i : Nat} (h : i < l.length) : (j.map eWr ++ l.map eWr)[j.length + i]? = some (eWr (l.getD i default)) := by
 rw [List.getElem?_append_right (by simp)]
 simp [List.getD_eq_getElem?_getD, h]
set_option maxRecDepth 100000 in
set_option maxHeartbeats 4000000 in
theorem dApply (ws : List Int) (j l : List (Int × Int)) (m s k : Nat) (hm : ws.length = m) (hs : s = j.length) (hk : k ≤ l.length) (hb : m ≤ 100000 ∧ k ≤ 1000000000) (hl : ∀ x, x ∈ l → 0 ≤ x.1 ∧ x.1 / 8 < m) : ACalls Try.prog 45 [.sl 0 1 0 m, .sl 1 2 s k] [.arr 1 (ws.map eU), .arr 2 (j.map eWr ++ l.map eWr)] (.p (.tup [])) [.arr 1 ((appL ws (l.take k)).map eU), .arr 2 (j.map eWr ++ l.map eWr)] := by
 refine acalls_of (E := E) (fn := Try.f45) 20 [] rfl rfl rfl rfl (by decide) rfl rfl ?_
 repeat' (first
  | (with_reducible first | refine r_seq ?_ | refine r_block ?_ | refine fork_not ?_ | refine fork_and ?_ | refine fork_or ?_ | refine chk_ok (by kernel_rfl) ?_)
  | ((with_reducible first | refine fork_dec ?_ ?_ | refine fork_eq ?_ ?_ | refine fork_ne ?_ ?_ | refine fork_intro ?_ ?_) <;> intro h)
  | ((with_reducible show False); omega)
  | ((first | (with_reducible first | refine r_exit ?_ | refine r_skip ?_ | refine r_cond ?_ | refine r_region ?_ | refine r_ret ?_ | show VX _ _ _ _ _ _ _ | show vstep _ _ _ _ _ | show vskip _ _ _ | show withV _ _) | ((with_reducible show endA _ _ _ _ _ _ _); simp -implicitDefEqProofs only [endA]) | (with_reducible first | refine pick_viewG default (by first | omega | (simp only [LN]; omega)) (by first | omega | (simp only [LN]; omega)) ?_ | refine pick_own default (by first | omega | (simp only [LN]; omega)) ?_ | refine And.intro (by first | decide | omega | assumption | (simp only [LN]; omega)) ?_) | ((with_reducible show pickE _ _ _); first | refine pickE_intro _ ⟨by omega, by rfl⟩ ?_ | refine pickE_intro _ (by rfl) ?_) | fail); try simp -dsimp -implicitDefEqProofs (maxSteps := 1000000) (disch := first | omega | (simp only [LN]; omega)) only [go_sem])
  | fail)
 refine r_loopA (α := Nat) [0, 6, 7] (fun i b => [(8, aI i)]) (fun i b => [(0, .arr 1 ((appL ws (l.take i)).map eU))]) (fun i => []) (fun i => i ≤ k) (fun i => k - i) (0) ?h0_1 ?hs0_1 ?I_1 ?hI_1 ?round_1
 case hI_1 => intro x; (simp -dsimp -implicitDefEqProofs (maxSteps := 1000000) (disch := first | omega | (simp only [LN]; omega)) only [go_sem]) <;> exact rfl
 case hs0_1 => refine wk_auto ?_; (simp -dsimp -implicitDefEqProofs (maxSteps := 1000000) (disch := first | omega | (simp only [LN, appL_nil]; omega)) only [go_sem, appL_nil]) <;> (try omega)
 case h0_1 => exact Nat.zero_le _
 case round_1 =>
  intro i h1
  have hal : (appL ws (l.take i)).length = m := by rw [appL_len]; exact hm
  by_cases hi : i < k
  ·have hx := hl (l.getD i default) (by rw [List.getD_eq_getElem?_getD, List.getElem?_eq_getElem (by omega)]; exact List.getElem_mem _)
   have hst := appL_step ws l i (by omega)
   have e1 : (l.getD i default).1.tdiv 8 = (l.getD i default).1 / 8 := Int.tdiv_eq_ediv_of_nonneg hx.1
   have e2 : IntKind.u64.wrap ((l.getD i default).1 / 8) = (l.getD i default).1 / 8 := by rw [IntKind.wrap_u64]; omega
   repeat' (first
    | (with_reducible first | refine r_seq ?_ | refine r_block ?_ | refine fork_not ?_ | refine fork_and ?_ | refine fork_or ?_ | refine chk_ok (by kernel_rfl) ?_)
    | ((with_reducible first | refine fork_dec ?_ ?_ | refine fork_eq ?_ ?_ | refine fork_ne ?_ ?_ | refine fork_intro ?_ ?_) <;> intro h <;> try (exfalso; first | omega | exact h rfl | (revert h; decide) | (cases h; done)))
    | ((with_reducible show False); omega)
    | ((first | (with_reducible first | refine r_exit ?_ | refine r_skip ?_ | refine r_cond ?_ | refine r_region ?_ | refine r_ret ?_ | show VX _ _ _ _ _ _ _ | show vstep _ _ _ _ _ | show vskip _ _ _ | show withV _ _) | ((with_reducible show endA _ _ _ _ _ _ _); simp -implicitDefEqProofs only [endA]) | (with_reducible first | refine pick_viewG default (by first | omega | (simp only [LN, hal, e1, e2]; omega)) (by first | omega | (simp only [LN, hal, e1, e2]; omega)) ?_ | refine pick_own default (by first | omega | (simp only [LN, hal, e1, e2]; omega)) ?_ | refine And.intro (by first | decide | omega | assumption | (simp only [LN, hal, e1, e2]; omega)) ?_) | ((with_reducible show pickE _ _ _); first | refine pickE_intro _ ⟨by omega, by rfl⟩ ?_ | refine pickE_intro _ (by rfl) ?_) | fail); try simp -dsimp -implicitDefEqProofs (maxSteps := 1000000) (disch := first | omega | (simp only [LN, hal, e1, e2]; omega)) only [go_sem, hal, e1, e2])
    | fail)
   all_goals try omega
   refine pickE_intro (eWr (l.getD i default)) (by rw [hs]; exact pick_row (by omega)) ?_
   simp -implicitDefEqProofs only [eWr]
   simp -dsimp -implicitDefEqProofs (maxSteps := 1000000) (disch := first | omega | (simp only [LN]; omega)) only [go_sem]
   repeat' (first
    | (with_reducible first | refine r_seq ?_ | refine r_block ?_ | refine fork_not ?_ | refine fork_and ?_ | refine fork_or ?_ | refine chk_ok (by kernel_rfl) ?_)
    | ((with_reducible first | refine fork_dec ?_ ?_ | refine fork_eq ?_ ?_ | refine fork_ne ?_ ?_ | refine fork_intro ?_ ?_) <;> intro h <;> try (exfalso; first | omega | exact h rfl | (revert h; decide) | (cases h; done)))
    | ((with_reducible show False); omega)
    | ((first | (with_reducible first | refine r_exit ?_ | refine r_skip ?_ | refine r_cond ?_ | refine r_region ?_ | refine r_ret ?_ | show VX _ _ _ _ _ _ _ | show vstep _ _ _ _ _ | show vskip _ _ _ | show withV _ _) | ((with_reducible show endA _ _ _ _ _ _ _); simp -implicitDefEqProofs only [endA]) | (with_reducible first | refine pick_viewG default (by first | omega | (simp only [LN, hal, e1, e2]; omega)) (by first | omega | (simp only [LN, hal, e1, e2]; omega)) ?_ | refine pick_own default (by first | omega | (simp only [LN, hal, e1, e2]; omega)) ?_ | refine And.intro (by first | decide | omega | assumption | (simp only [LN, hal, e1, e2]; omega)) ?_) | ((with_reducible show pickE _ _ _); first | refine pickE_intro _ ⟨by omega, by rfl⟩ ?_ | refine pickE_intro _ (by rfl) ?_) | fail); try simp -dsimp -implicitDefEqProofs (maxSteps := 1000000) (disch := first | omega | (simp only [LN, hal, e1, e2]; omega)) only [go_sem, hal, e1, e2])
    | fail)
   all_goals first | omega | (refine loopQ_next (i + 1) ?_ ?_ ?_; (omega); (show _ < _; omega); (simp -dsimp -implicitDefEqProofs (maxSteps := 1000000) (disch := first | omega | (simp only [LN, hst]; omega)) only [go_sem, hst]; try trivial))
  ·obtain rfl : i = k := by omega
   repeat' (first
    | (with_reducible first | refine r_seq ?_ | refine r_block ?_ | refine fork_not ?_ | refine fork_and ?_ | refine fork_or ?_ | refine chk_ok (by kernel_rfl) ?_)
    | ((with_reducible first | refine fork_dec ?_ ?_ | refine fork_eq ?_ ?_ | refine fork_ne ?_ ?_ | refine fork_intro ?_ ?_) <;> intro h <;> try (exfalso; first | omega | exact h rfl | (revert h; decide) | (cases h; done)))
    | ((with_reducible show False); omega)
    | ((first | (with_reducible first | refine r_exit ?_ | refine r_skip ?_ | refine r_cond ?_ | refine r_region ?_ | refine r_ret ?_ | show VX _ _ _ _ _ _ _ | show vstep _ _ _ _ _ | show vskip _ _ _ | show withV _ _) | ((with_reducible show endA _ _ _ _ _ _ _); simp -implicitDefEqProofs only [endA]) | (with_reducible first | refine pick_viewG default (by first | omega | (simp only [LN, hal]; omega)) (by first | omega | (simp only [LN, hal]; omega)) ?_ | refine pick_own default (by first | omega | (simp only [LN, hal]; omega)) ?_ | refine And.intro (by first | decide | omega | assumption | (simp only [LN, hal]; omega)) ?_) | ((with_reducible show pickE _ _ _); first | refine pickE_intro _ ⟨by omega, by rfl⟩ ?_ | refine pickE_intro _ (by rfl) ?_) | fail); try simp -dsimp -implicitDefEqProofs (maxSteps := 1000000) (disch := first | omega | (simp only [LN, hal]; omega)) only [go_sem, hal])
    | fail)
   all_goals first | omega
end Go.Proofs.Ytlldhofcdfejnaa