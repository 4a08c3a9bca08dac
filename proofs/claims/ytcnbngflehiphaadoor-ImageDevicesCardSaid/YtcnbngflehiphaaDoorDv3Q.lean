/- Contracts of functions of this program, and the plain facts that they rest on. No conditions. -/
import Derived.Test.YtcnbngflehiphaaDoorDv2Q
set_option linter.unusedSimpArgs false
set_option linter.unusedVariables false
namespace Go.Proofs.YtcnbngflehiphaaDoor
open Go Go.Ab
attribute [local irreducible] callK callF loopQ vstep vskip pickE hideP
set_option maxRecDepth 100000
attribute [local go_sem] eU dvO thO mpO liZ dvC thC
set_option maxRecDepth 100000 in
set_option maxHeartbeats 4000000 in
theorem dPers (ws cs : List Int) (n : Nat) (off armed : Bool) (left ex e0 e1 e2 e3 e4 e5 e6 e7 : Int) (m0 m1 m2 m3 m4 m5 m6 m7 : EK) (hn : n ≤ 4096) (hw : ws.length = 8 * n) (hc : cs.length = 8 * n) : ACalls Tryd.prog 37 [.loc 0 0] [dvC n off armed left ex, .arr 1 (ws.map eU), .arr 1 (cs.map eU), liZ n, thC 0 e0, thC 1 e1, thC 2 e2, thC 3 e3, thC 4 e4, thC 5 e5, thC 6 e6, thC 7 e7, .mp (some .i64) m0, .mp (some .i64) m1, .mp (some .i64) m2, .mp (some .i64) m3, .mp (some .i64) m4, .mp (some .i64) m5, .mp (some .i64) m6, .mp (some .i64) m7] (.sl 20 1 0 (8 * ws.length)) [dvC n off armed left ex, .arr 1 (ws.map eU), .arr 1 (cs.map eU), liZ n, thC 0 e0, thC 1 e1, thC 2 e2, thC 3 e3, thC 4 e4, thC 5 e5, thC 6 e6, thC 7 e7, .mp (some .i64) m0, .mp (some .i64) m1, .mp (some .i64) m2, .mp (some .i64) m3, .mp (some .i64) m4, .mp (some .i64) m5, .mp (some .i64) m6, .mp (some .i64) m7, .arr 1 (byL ws (8 * ws.length) (8 * ws.length))] := by
 refine acalls_of (E := E) (fn := Tryd.f37) 10 [.tmp 2] rfl rfl rfl rfl (by decide) rfl rfl ?_
 have k := dBytes ws (by omega)
 rw [hw] at k ⊢
 repeat' (first
  | (with_reducible first | refine r_seq ?_ | refine r_block ?_ | refine fork_not ?_ | refine fork_and ?_ | refine fork_or ?_ | refine chk_ok (by kernel_rfl) ?_)
  | ((with_reducible first | refine fork_dec ?_ ?_ | refine fork_eq ?_ ?_ | refine fork_ne ?_ ?_ | refine fork_intro ?_ ?_) <;> intro h)
  | ((with_reducible show False); omega)
  | ((first | (with_reducible first | refine r_exit ?_ | refine r_skip ?_ | refine r_cond ?_ | refine r_region ?_ | refine r_ret ?_ | show VX _ _ _ _ _ _ _ | show vstep _ _ _ _ _ | show vskip _ _ _ | show withV _ _) | ((with_reducible show endA _ _ _ _ _ _ _); simp -implicitDefEqProofs only [endA]) | (with_reducible first | refine pick_viewG default (by first | omega | (simp only [LN]; omega)) (by first | omega | (simp only [LN]; omega)) ?_ | refine pick_own default (by first | omega | (simp only [LN]; omega)) ?_ | refine And.intro (by first | decide | omega | assumption | (simp only [LN]; omega)) ?_) | (with_reducible first | apply callK_lent | apply callF_lent | apply hideP_own) | ((with_reducible apply callA_go); (first | exact k | fail)) | ((with_reducible show pickE _ _ _); first | refine pickE_intro _ ⟨by omega, by rfl⟩ ?_ | refine pickE_intro _ (by rfl) ?_) | fail); try simp -dsimp -implicitDefEqProofs (maxSteps := 1000000) (disch := first | omega | (simp only [LN]; omega)) only [go_sem])
  | fail)
set_option maxRecDepth 100000 in
set_option maxHeartbeats 4000000 in
theorem dCur (ws cs : List Int) (n : Nat) (off armed : Bool) (left ex e0 e1 e2 e3 e4 e5 e6 e7 : Int) (m0 m1 m2 m3 m4 m5 m6 m7 : EK) (hn : n ≤ 4096) (hw : ws.length = 8 * n) (hc : cs.length = 8 * n) : ACalls Tryd.prog 38 [.loc 0 0] [dvC n off armed left ex, .arr 1 (ws.map eU), .arr 1 (cs.map eU), liZ n, thC 0 e0, thC 1 e1, thC 2 e2, thC 3 e3, thC 4 e4, thC 5 e5, thC 6 e6, thC 7 e7, .mp (some .i64) m0, .mp (some .i64) m1, .mp (some .i64) m2, .mp (some .i64) m3, .mp (some .i64) m4, .mp (some .i64) m5, .mp (some .i64) m6, .mp (some .i64) m7] (.sl 20 1 0 (8 * cs.length)) [dvC n off armed left ex, .arr 1 (ws.map eU), .arr 1 (cs.map eU), liZ n, thC 0 e0, thC 1 e1, thC 2 e2, thC 3 e3, thC 4 e4, thC 5 e5, thC 6 e6, thC 7 e7, .mp (some .i64) m0, .mp (some .i64) m1, .mp (some .i64) m2, .mp (some .i64) m3, .mp (some .i64) m4, .mp (some .i64) m5, .mp (some .i64) m6, .mp (some .i64) m7, .arr 1 (byL cs (8 * cs.length) (8 * cs.length))] := by
 refine acalls_of (E := E) (fn := Tryd.f38) 10 [.tmp 2] rfl rfl rfl rfl (by decide) rfl rfl ?_
 have k := dBytes cs (by omega)
 rw [hc] at k ⊢
 repeat' (first
  | (with_reducible first | refine r_seq ?_ | refine r_block ?_ | refine fork_not ?_ | refine fork_and ?_ | refine fork_or ?_ | refine chk_ok (by kernel_rfl) ?_)
  | ((with_reducible first | refine fork_dec ?_ ?_ | refine fork_eq ?_ ?_ | refine fork_ne ?_ ?_ | refine fork_intro ?_ ?_) <;> intro h)
  | ((with_reducible show False); omega)
  | ((first | (with_reducible first | refine r_exit ?_ | refine r_skip ?_ | refine r_cond ?_ | refine r_region ?_ | refine r_ret ?_ | show VX _ _ _ _ _ _ _ | show vstep _ _ _ _ _ | show vskip _ _ _ | show withV _ _) | ((with_reducible show endA _ _ _ _ _ _ _); simp -implicitDefEqProofs only [endA]) | (with_reducible first | refine pick_viewG default (by first | omega | (simp only [LN]; omega)) (by first | omega | (simp only [LN]; omega)) ?_ | refine pick_own default (by first | omega | (simp only [LN]; omega)) ?_ | refine And.intro (by first | decide | omega | assumption | (simp only [LN]; omega)) ?_) | (with_reducible first | apply callK_lent | apply callF_lent | apply hideP_own) | ((with_reducible apply callA_go); (first | exact k | fail)) | ((with_reducible show pickE _ _ _); first | refine pickE_intro _ ⟨by omega, by rfl⟩ ?_ | refine pickE_intro _ (by rfl) ?_) | fail); try simp -dsimp -implicitDefEqProofs (maxSteps := 1000000) (disch := first | omega | (simp only [LN]; omega)) only [go_sem])
  | fail)
set_option maxRecDepth 100000 in
set_option maxHeartbeats 4000000 in
theorem dDirty (ws cs : List Int) (n : Nat) (off armed : Bool) (left ex e0 e1 e2 e3 e4 e5 e6 e7 : Int) (m0 m1 m2 m3 m4 m5 m6 m7 : EK) (hn : n ≤ 4096) (hw : ws.length = 8 * n) (hc : cs.length = 8 * n) : ACalls Tryd.prog 36 [.loc 0 0] [dvC n off armed left ex, .arr 1 (ws.map eU), .arr 1 (cs.map eU), liZ n, thC 0 e0, thC 1 e1, thC 2 e2, thC 3 e3, thC 4 e4, thC 5 e5, thC 6 e6, thC 7 e7, .mp (some .i64) m0, .mp (some .i64) m1, .mp (some .i64) m2, .mp (some .i64) m3, .mp (some .i64) m4, .mp (some .i64) m5, .mp (some .i64) m6, .mp (some .i64) m7] (.p (.v (.slice none 0 0))) [dvC n off armed left ex, .arr 1 (ws.map eU), .arr 1 (cs.map eU), liZ n, thC 0 e0, thC 1 e1, thC 2 e2, thC 3 e3, thC 4 e4, thC 5 e5, thC 6 e6, thC 7 e7, .mp (some .i64) m0, .mp (some .i64) m1, .mp (some .i64) m2, .mp (some .i64) m3, .mp (some .i64) m4, .mp (some .i64) m5, .mp (some .i64) m6, .mp (some .i64) m7] := by
 refine acalls_of (E := E) (fn := Tryd.f36) 31 [.tmp 2] rfl rfl rfl rfl (by decide) rfl rfl ?_
 repeat' (first
  | (with_reducible first | refine r_seq ?_ | refine r_block ?_ | refine fork_not ?_ | refine fork_and ?_ | refine fork_or ?_ | refine chk_ok (by kernel_rfl) ?_)
  | ((with_reducible first | refine fork_dec ?_ ?_ | refine fork_eq ?_ ?_ | refine fork_ne ?_ ?_ | refine fork_intro ?_ ?_) <;> intro h)
  | ((with_reducible show False); omega)
  | ((first | (with_reducible first | refine r_exit ?_ | refine r_skip ?_ | refine r_cond ?_ | refine r_region ?_ | refine r_ret ?_ | show VX _ _ _ _ _ _ _ | show vstep _ _ _ _ _ | show vskip _ _ _ | show withV _ _) | ((with_reducible show endA _ _ _ _ _ _ _); simp -implicitDefEqProofs only [endA]) | (with_reducible first | refine pick_viewG default (by first | omega | (simp only [LN]; omega)) (by first | omega | (simp only [LN]; omega)) ?_ | refine pick_own default (by first | omega | (simp only [LN]; omega)) ?_ | refine And.intro (by first | decide | omega | assumption | (simp only [LN]; omega)) ?_) | ((with_reducible show pickE _ _ _); first | refine pickE_intro _ ⟨by omega, by rfl⟩ ?_ | refine pickE_intro _ (by rfl) ?_) | fail); try simp -dsimp -implicitDefEqProofs (maxSteps := 1000000) (disch := first | omega | (simp only [LN]; omega)) only [go_sem])
  | fail)
 refine r_loopA (α := Nat) [0, 11] (fun i b => [(3, .p (.v (.slice none 0 0))), (12, aI i)]) (fun i b => []) (fun i => []) (fun i => i ≤ n) (fun i => n - i) (0) ?h0_1 ?hs0_1 ?I_1 ?hI_1 ?round_1
 case hI_1 => intro x; (simp -dsimp -implicitDefEqProofs (maxSteps := 1000000) (disch := first | omega | (simp only [LN]; omega)) only [go_sem]) <;> exact rfl
 case hs0_1 => refine wk_auto ?_; (simp -dsimp -implicitDefEqProofs (maxSteps := 1000000) (disch := first | omega | (simp only [LN]; omega)) only [go_sem]) <;> (try omega)
 case h0_1 => exact Nat.zero_le _
 case round_1 =>
  intro i h1
  by_cases hi : i < n
  ·repeat' (first
    | (with_reducible first | refine r_seq ?_ | refine r_block ?_ | refine fork_not ?_ | refine fork_and ?_ | refine fork_or ?_ | refine chk_ok (by kernel_rfl) ?_)
    | ((with_reducible first | refine fork_dec ?_ ?_ | refine fork_eq ?_ ?_ | refine fork_ne ?_ ?_ | refine fork_intro ?_ ?_) <;> intro h <;> try (exfalso; first | omega | exact h rfl | (revert h; decide) | (cases h; done)))
    | ((with_reducible show False); omega)
    | ((first | (with_reducible first | refine r_exit ?_ | refine r_skip ?_ | refine r_cond ?_ | refine r_region ?_ | refine r_ret ?_ | show VX _ _ _ _ _ _ _ | show vstep _ _ _ _ _ | show vskip _ _ _ | show withV _ _) | ((with_reducible show endA _ _ _ _ _ _ _); simp -implicitDefEqProofs only [endA]) | (with_reducible first | refine pick_viewG default (by first | omega | (simp only [LN]; omega)) (by first | omega | (simp only [LN]; omega)) ?_ | refine pick_own default (by first | omega | (simp only [LN]; omega)) ?_ | refine And.intro (by first | decide | omega | assumption | (simp only [LN]; omega)) ?_) | ((with_reducible show pickE _ _ _); first | refine pickE_intro _ ⟨by omega, by rfl⟩ ?_ | refine pickE_intro _ (by rfl) ?_) | fail); try simp -dsimp -implicitDefEqProofs (maxSteps := 1000000) (disch := first | omega | (simp only [LN]; omega)) only [go_sem])
    | fail)
   all_goals try omega
   refine pickE_intro (.agg [.v (.int .u64 0), .v (.slice none 0 0)]) (by rw [List.getElem?_replicate, if_pos hi]) ?_
   simp -dsimp -implicitDefEqProofs (maxSteps := 1000000) (disch := first | omega | (simp only [LN]; omega)) only [go_sem]
   repeat' (first
    | (with_reducible first | refine r_seq ?_ | refine r_block ?_ | refine fork_not ?_ | refine fork_and ?_ | refine fork_or ?_ | refine chk_ok (by kernel_rfl) ?_)
    | ((with_reducible first | refine fork_dec ?_ ?_ | refine fork_eq ?_ ?_ | refine fork_ne ?_ ?_ | refine fork_intro ?_ ?_) <;> intro h <;> try (exfalso; first | omega | exact h rfl | (revert h; decide) | (cases h; done)))
    | ((with_reducible show False); omega)
    | ((first | (with_reducible first | refine r_exit ?_ | refine r_skip ?_ | refine r_cond ?_ | refine r_region ?_ | refine r_ret ?_ | show VX _ _ _ _ _ _ _ | show vstep _ _ _ _ _ | show vskip _ _ _ | show withV _ _) | ((with_reducible show endA _ _ _ _ _ _ _); simp -implicitDefEqProofs only [endA]) | (with_reducible first | refine pick_viewG default (by first | omega | (simp only [LN]; omega)) (by first | omega | (simp only [LN]; omega)) ?_ | refine pick_own default (by first | omega | (simp only [LN]; omega)) ?_ | refine And.intro (by first | decide | omega | assumption | (simp only [LN]; omega)) ?_) | ((with_reducible show pickE _ _ _); first | refine pickE_intro _ ⟨by omega, by rfl⟩ ?_ | refine pickE_intro _ (by rfl) ?_) | fail); try simp -dsimp -implicitDefEqProofs (maxSteps := 1000000) (disch := first | omega | (simp only [LN]; omega)) only [go_sem])
    | fail)
   all_goals first | omega | (refine loopQ_next (i + 1) ?_ ?_ ?_; (omega); (show _ < _; omega); (simp -dsimp -implicitDefEqProofs (maxSteps := 1000000) (disch := first | omega | (simp only [LN]; omega)) only [go_sem]; try trivial))
  ·obtain rfl : i = n := by omega
   repeat' (first
    | (with_reducible first | refine r_seq ?_ | refine r_block ?_ | refine fork_not ?_ | refine fork_and ?_ | refine fork_or ?_ | refine chk_ok (by kernel_rfl) ?_)
    | ((with_reducible first | refine fork_dec ?_ ?_ | refine fork_eq ?_ ?_ | refine fork_ne ?_ ?_ | refine fork_intro ?_ ?_) <;> intro h <;> try (exfalso; first | omega | exact h rfl | (revert h; decide) | (cases h; done)))
    | ((with_reducible show False); omega)
    | ((first | (with_reducible first | refine r_exit ?_ | refine r_skip ?_ | refine r_cond ?_ | refine r_region ?_ | refine r_ret ?_ | show VX _ _ _ _ _ _ _ | show vstep _ _ _ _ _ | show vskip _ _ _ | show withV _ _) | ((with_reducible show endA _ _ _ _ _ _ _); simp -implicitDefEqProofs only [endA]) | (with_reducible first | refine pick_viewG default (by first | omega | (simp only [LN]; omega)) (by first | omega | (simp only [LN]; omega)) ?_ | refine pick_own default (by first | omega | (simp only [LN]; omega)) ?_ | refine And.intro (by first | decide | omega | assumption | (simp only [LN]; omega)) ?_) | ((with_reducible show pickE _ _ _); first | refine pickE_intro _ ⟨by omega, by rfl⟩ ?_ | refine pickE_intro _ (by rfl) ?_) | fail); try simp -dsimp -implicitDefEqProofs (maxSteps := 1000000) (disch := first | omega | (simp only [LN]; omega)) only [go_sem])
    | fail)
   all_goals first | omega | rfl
end Go.Proofs.YtcnbngflehiphaaDoor