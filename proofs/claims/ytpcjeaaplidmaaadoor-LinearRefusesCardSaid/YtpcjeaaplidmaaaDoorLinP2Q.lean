/- Contracts of functions of this program, and the plain facts that they rest on. No conditions. -/
import Derived.Test.YtpcjeaaplidmaaaDoorLinPQ
import Derived.Test.YtpcjeaaplidmaaaDoorLinE3Q
import Derived.Test.YtpcjeaaplidmaaaDoorLinHQ
set_option linter.unusedSimpArgs false
set_option linter.unusedVariables false
namespace Go.Proofs.YtpcjeaaplidmaaaDoor
open Go Go.Ab
attribute [local irreducible] callK callF loopQ vstep vskip pickE hideP
open Go.RowKit
set_option maxRecDepth 100000
attribute [local go_sem] Hi.eC Hi.rC Hi.eE Hi.hc Hi.hP Hi.oH sV eM eN eI eB pcells_L
attribute [local irreducible] seenV keyM goM runM numL textP befL endN checkR prefR
set_option maxRecDepth 100000 in
set_option maxHeartbeats 4000000 in
theorem o16s (k : Int) (x : Hi.H) (fin : LP) (hfl : fin.length ≤ 10000) (h : checkE k x.cl = 0) (hro : ∀ i, i < x.cl.length → RngO (opC (x.cl.getD i default))) : ACalls Tryd.prog 16 [.p (.v (.int .u8 k)), .loc 0 0, .sl 1 2 0 fin.length] [Hi.oH x 2 3, .arr 2 (fin.map Sp.eP), .arr 2 (x.ev.map Hi.eE), .arr 11 (x.cl.map Hi.eC)] (.p (.tup [.view 1 (if (checkR k x.cl fin).1 = true then ((checkR k x.cl fin).2.es.take (checkR k x.cl fin).2.n).map eN else []), .v (.bool (checkR k x.cl fin).1), .v (.int .i64 0)])) [Hi.oH x 2 3, .arr 2 (fin.map Sp.eP), .arr 2 (x.ev.map Hi.eE), .arr 11 (x.cl.map Hi.eC)] := by
 refine acalls_of (E := E) (fn := Tryd.f16) 32 [.tmp 6, .tmp 7, .tmp 8] rfl rfl rfl rfl (by decide) rfl rfl ?_
 obtain ⟨h1, h2⟩ := check_0 h
 have hk := exam_k h1
 have kr := run_allS x.cl fin hfl h2 hro 11 (ini k) 0 0 ⟨[], [], 0, []⟩ (ok_ini k hk.1) (by decide) (by have := free_le 0 x.cl.length; omega) (Nat.pow_pos (by decide)) (Nat.le_refl _) (by decide)
 have hrn := run_n x.cl (fndC fin) 11 (ini k) 0 ⟨[], [], 0, []⟩ (Nat.le_refl _)
 have ke : runM x.cl (fun s a => (decide (Sp.contM s = fin), a)) 11 (ini k) 0 ⟨[], [], 0, []⟩ = checkR k x.cl fin := by unfold checkR; rfl
 rw [ke] at kr
 have ke2 : runM x.cl (fndC fin) 11 (ini k) 0 ⟨[], [], 0, []⟩ = checkR k x.cl fin := by unfold checkR; rfl
 rw [ke2] at hrn
 have hrn := hrn.1
 generalize checkR k x.cl fin = R at *
 obtain ⟨rb, rg⟩ := R
 dsimp only at kr hrn ⊢
 have c29 := o29 k x h1 h2
 have c8 := c8S k
 repeat' ((fail_if_success (with_reducible show awp _ _ (Code.region 5 _ _) _ _)); first
  | (with_reducible first | refine r_seq ?_ | refine r_block ?_ | refine fork_not ?_ | refine fork_and ?_ | refine fork_or ?_ | refine chk_ok (by kernel_rfl) ?_)
  | ((with_reducible first | refine fork_dec ?_ ?_ | refine fork_eq ?_ ?_ | refine fork_ne ?_ ?_ | refine fork_intro ?_ ?_) <;> intro h <;> try (exfalso; first | omega | exact h rfl | (revert h; decide) | (cases h; done)))
  | ((with_reducible show False); omega)
  | ((first | (with_reducible first | refine r_exit ?_ | refine r_skip ?_ | refine r_cond ?_ | refine r_region ?_ | refine r_ret ?_ | show VX _ _ _ _ _ _ _ | show vstep _ _ _ _ _ | show vskip _ _ _ | show withV _ _) | ((with_reducible show endA _ _ _ _ _ _ _); simp -implicitDefEqProofs only [endA]) | (with_reducible first | refine pick_viewG default (by first | omega | (simp only [LN, seenV_0]; omega)) (by first | omega | (simp only [LN, seenV_0]; omega)) ?_ | refine pick_own default (by first | omega | (simp only [LN, seenV_0]; omega)) ?_ | refine And.intro (by first | decide | omega | assumption | (simp only [LN, seenV_0]; omega)) ?_) | (with_reducible first | apply callK_lent | apply callF_lent | apply hideP_own) | ((with_reducible apply callA_go); (first | exact c29 | fail)) | ((with_reducible show pickE _ _ _); first | refine pickE_intro _ ⟨by omega, by rfl⟩ ?_ | refine pickE_intro _ (by rfl) ?_) | fail); try simp -dsimp -implicitDefEqProofs (maxSteps := 1000000) (disch := first | omega | (simp only [LN, seenV_0]; omega)) only [go_sem, seenV_0])
  | fail)
 refine r_turn [0, 9] (fun b => []) (fun b => [(1005, sV x.cl (endN x.cl) 6 7 (.sl b 1 0 0) (.fn 30 [.loc 4 0])), (1007, .mp none (.b (seenV [])))]) [.arr 1 []] fun I hI => ?_
 simp -dsimp -implicitDefEqProofs (maxSteps := 1000000) (disch := first | omega | (simp only [LN]; omega)) only [go_sem] at hI
 subst hI
 refine And.intro ?_ ?_
 ·(simp -dsimp -implicitDefEqProofs (maxSteps := 1000000) (disch := first | omega | (simp only [LN, seenV_0]; omega)) only [go_sem, seenV_0]) <;> (try omega)
 cases rb with
 | true =>
  repeat' (first
   | (with_reducible first | refine r_seq ?_ | refine r_block ?_ | refine fork_not ?_ | refine fork_and ?_ | refine fork_or ?_ | refine chk_ok (by kernel_rfl) ?_)
   | ((with_reducible first | refine fork_dec ?_ ?_ | refine fork_eq ?_ ?_ | refine fork_ne ?_ ?_ | refine fork_intro ?_ ?_) <;> intro h <;> try (exfalso; first | omega | exact h rfl | (revert h; decide) | (cases h; done)))
   | ((with_reducible show False); omega)
   | ((first | (with_reducible first | refine r_exit ?_ | refine r_skip ?_ | refine r_cond ?_ | refine r_region ?_ | refine r_ret ?_ | show VX _ _ _ _ _ _ _ | show vstep _ _ _ _ _ | show vskip _ _ _ | show withV _ _) | ((with_reducible show endA _ _ _ _ _ _ _); simp -implicitDefEqProofs only [endA]) | (with_reducible first | refine pick_viewG default (by first | omega | (simp only [LN]; omega)) (by first | omega | (simp only [LN]; omega)) ?_ | refine pick_own default (by first | omega | (simp only [LN]; omega)) ?_ | refine And.intro (by first | decide | omega | assumption | (simp only [LN]; omega)) ?_) | ((with_reducible apply callK_pure); (exact c8)) | ((with_reducible apply callF_lend); (exact c8); rfl) | ((with_reducible apply callF_go); (exact c8)) | (with_reducible first | apply callK_lent | apply callF_lent | apply hideP_own) | ((with_reducible apply callA_go); (first | exact kr | fail)) | ((with_reducible show pickE _ _ _); first | refine pickE_intro _ ⟨by omega, by rfl⟩ ?_ | refine pickE_intro _ (by rfl) ?_) | fail); try simp -dsimp -implicitDefEqProofs (maxSteps := 1000000) (disch := first | omega | (simp only [LN]; omega)) only [go_sem])
   | fail)
  all_goals first | (rw [if_pos trivial]; (repeat' (first | rfl | apply And.intro | apply Or.inl)); done)
 | false =>
  repeat' (first
   | (with_reducible first | refine r_seq ?_ | refine r_block ?_ | refine fork_not ?_ | refine fork_and ?_ | refine fork_or ?_ | refine chk_ok (by kernel_rfl) ?_)
   | ((with_reducible first | refine fork_dec ?_ ?_ | refine fork_eq ?_ ?_ | refine fork_ne ?_ ?_ | refine fork_intro ?_ ?_) <;> intro h <;> try (exfalso; first | omega | exact h rfl | (revert h; decide) | (cases h; done)))
   | ((with_reducible show False); omega)
   | ((first | (with_reducible first | refine r_exit ?_ | refine r_skip ?_ | refine r_cond ?_ | refine r_region ?_ | refine r_ret ?_ | show VX _ _ _ _ _ _ _ | show vstep _ _ _ _ _ | show vskip _ _ _ | show withV _ _) | ((with_reducible show endA _ _ _ _ _ _ _); simp -implicitDefEqProofs only [endA]) | (with_reducible first | refine pick_viewG default (by first | omega | (simp only [LN]; omega)) (by first | omega | (simp only [LN]; omega)) ?_ | refine pick_own default (by first | omega | (simp only [LN]; omega)) ?_ | refine And.intro (by first | decide | omega | assumption | (simp only [LN]; omega)) ?_) | ((with_reducible apply callK_pure); (exact c8)) | ((with_reducible apply callF_lend); (exact c8); rfl) | ((with_reducible apply callF_go); (exact c8)) | (with_reducible first | apply callK_lent | apply callF_lent | apply hideP_own) | ((with_reducible apply callA_go); (first | exact kr | fail)) | ((with_reducible show pickE _ _ _); first | refine pickE_intro _ ⟨by omega, by rfl⟩ ?_ | refine pickE_intro _ (by rfl) ?_) | fail); try simp -dsimp -implicitDefEqProofs (maxSteps := 1000000) (disch := first | omega | (simp only [LN]; omega)) only [go_sem])
   | fail)
  all_goals first | (rw [if_neg Bool.false_ne_true]; (repeat' (first | rfl | apply And.intro | apply Or.inl)); done)
end Go.Proofs.YtpcjeaaplidmaaaDoor