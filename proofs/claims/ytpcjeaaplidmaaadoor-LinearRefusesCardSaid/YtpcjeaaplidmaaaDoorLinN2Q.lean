/- Contracts of functions of this program, and the plain facts that they rest on. No conditions. -/
import Derived.Test.YtpcjeaaplidmaaaDoorLinNQ
import Derived.Test.YtpcjeaaplidmaaaDoorLinMDQ
import Derived.Test.YtpcjeaaplidmaaaDoorLinMQ
import Derived.Test.YtpcjeaaplidmaaaDoorSortLQ
import Derived.Test.YtpcjeaaplidmaaaDoorLinPQ
set_option linter.unusedSimpArgs false
set_option linter.unusedVariables false
namespace Go.Proofs.YtpcjeaaplidmaaaDoor
open Go Go.Ab
attribute [local irreducible] callK callF loopQ vstep vskip pickE hideP
open Go.RowKit
set_option maxRecDepth 100000
attribute [local go_sem] Hi.eC Hi.rC Hi.eE Hi.hc Hi.hP Hi.oH sV eM eN eI eB pcells_L
theorem srtL_len (A : List LP) : (srtL A).length = A.length := (srtL_perm A).length_eq
theorem gdG : ∀ (Z : Nat → Prop) (w : World), Glob.G Z w → Gd.G Z w := fun _ _ h => h
theorem a37g (A : List LP) : ACalls Tryd.prog 37 [.sl 0 1 0 A.length, .p (.fn 38 [])] [.arr 1 (A.map eL)] (.p (.tup [])) [.arr 1 ((srtL A).map eL)] := by
 by_cases hA : A = []
 ·subst hA
  have e : srtL [] = [] := List.length_eq_zero_iff.1 (srtL_len [])
  rw [e]
  exact a37
 ·exact ac_sort (e := eL) Gd gdG trivial Tryd.sortL ⟨_, rfl, rfl, by decide⟩ (enters_of Tryd.func38 (by kernel_rfl) rfl) (fun x Z w u h => by
   simp only [eL, Rep] at h
   obtain ⟨vs, base, cap, _, rfl, _⟩ := h
   exact ⟨rfl, rfl⟩) swoL d38 hA (fun l h k => srtL_uni h k)
theorem prefR_len (k : Int) (cl : List Hi.C) (hl : cl.length ≤ 10) : (prefR k cl).2.acc.length ≤ 100000000000 := by
 have := run_acc cl hl 11 (ini k) 0 ⟨[], [], 0, []⟩
 refine Nat.le_trans this ?_
 decide
def preL (k : Int) (cl : List Hi.C) : List LP := dd (srtL (prefR k cl).2.acc)
theorem take_dd (A : List LP) (n : Nat) : ((A.map eL) ++ List.replicate n (PV.v (.slice none 0 0))).take A.length = A.map eL := by
 rw [List.take_left' (by simp)]
attribute [local irreducible] seenV keyM goM runM numL textP befL endN checkR prefR usedL bgT eraT stT
set_option maxRecDepth 100000 in
set_option maxHeartbeats 4000000 in
theorem o20g (k : Int) (x : Hi.H) (h : checkE k x.cl = 0) (hro : ∀ i, i < x.cl.length → RngO (opC (x.cl.getD i default))) : ACalls Tryd.prog 20 [.p (.v (.int .u8 k)), .loc 0 0] [Hi.oH x 1 2, .arr 2 (x.ev.map Hi.eE), .arr 11 (x.cl.map Hi.eC)] (.p (.tup [.view 1 ((preL k x.cl).map eL), .v (.int .i64 0)])) [Hi.oH x 1 2, .arr 2 (x.ev.map Hi.eE), .arr 11 (x.cl.map Hi.eC)] := by
 refine acalls_of (E := E) (fn := Tryd.f20) 30 [.tmp 4, .tmp 5] rfl rfl rfl rfl (by decide) rfl rfl ?_
 obtain ⟨h1, h2⟩ := check_0 h
 have hk := exam_k h1
 have kr := run_allP x.cl h2 hro 11 (ini k) 0 0 ⟨[], [], 0, []⟩ (ok_ini k hk.1) (by decide) (by have := free_le 0 x.cl.length; omega) (Nat.pow_pos (by decide)) (Nat.le_refl _) (by decide) (by decide)
 have ke : runM x.cl fndP 11 (ini k) 0 ⟨[], [], 0, []⟩ = prefR k x.cl := by unfold prefR; rfl
 rw [ke] at kr
 have hln := prefR_len k x.cl h2
 unfold preL
 generalize prefR k x.cl = R at *
 obtain ⟨rb, rg⟩ := R
 dsimp only at kr hln ⊢
 have c29 := o29 k x h1 h2
 have c8 := c8S k
 have k37 := a37g rg.acc
 have hsl := srtL_len rg.acc
 have k39 := a39g (srtL rg.acc) (by omega)
 rw [hsl] at k39
 have hdl := dd_len (srtL rg.acc)
 generalize srtL rg.acc = S at *
 repeat' ((fail_if_success (with_reducible show awp _ _ (Code.region 6 _ _) _ _)); first
  | (with_reducible first | refine r_seq ?_ | refine r_block ?_ | refine fork_not ?_ | refine fork_and ?_ | refine fork_or ?_ | refine chk_ok (by kernel_rfl) ?_)
  | ((with_reducible first | refine fork_dec ?_ ?_ | refine fork_eq ?_ ?_ | refine fork_ne ?_ ?_ | refine fork_intro ?_ ?_) <;> intro h <;> try (exfalso; first | omega | exact h rfl | (revert h; decide) | (cases h; done)))
  | ((with_reducible show False); omega)
  | ((first | (with_reducible first | refine r_exit ?_ | refine r_skip ?_ | refine r_cond ?_ | refine r_region ?_ | refine r_ret ?_ | show VX _ _ _ _ _ _ _ | show vstep _ _ _ _ _ | show vskip _ _ _ | show withV _ _) | ((with_reducible show endA _ _ _ _ _ _ _); simp -implicitDefEqProofs only [endA]) | (with_reducible first | refine pick_viewG default (by first | omega | (simp only [LN, seenV_0]; omega)) (by first | omega | (simp only [LN, seenV_0]; omega)) ?_ | refine pick_own default (by first | omega | (simp only [LN, seenV_0]; omega)) ?_ | refine And.intro (by first | decide | omega | assumption | (simp only [LN, seenV_0]; omega)) ?_) | (with_reducible first | apply callK_lent | apply callF_lent | apply hideP_own) | ((with_reducible apply callA_go); (first | exact c29 | fail)) | ((with_reducible show pickE _ _ _); first | refine pickE_intro _ ⟨by omega, by rfl⟩ ?_ | refine pickE_intro _ (by rfl) ?_) | fail); try simp -dsimp -implicitDefEqProofs (maxSteps := 1000000) (disch := first | omega | (simp only [LN, seenV_0]; omega)) only [go_sem, seenV_0])
  | fail)
 refine r_turn [0, 6, 8] (fun b => []) (fun b => [(1003, sV x.cl (endN x.cl) 4 5 (.sl b 1 0 0) (.fn 36 [.loc 6 0])), (1005, .mp none (.b (seenV []))), (1006, .var [.sl (b + 1) 1 0 0])]) [.arr 1 [], .arr 1 []] fun I hI => ?_
 simp -dsimp -implicitDefEqProofs (maxSteps := 1000000) (disch := first | omega | (simp only [LN]; omega)) only [go_sem] at hI
 subst hI
 refine And.intro ?_ ?_
 ·(simp -dsimp -implicitDefEqProofs (maxSteps := 1000000) (disch := first | omega | (simp only [LN, seenV_0]; omega)) only [go_sem, seenV_0]) <;> (try omega)
 repeat' (first
  | (with_reducible first | refine r_seq ?_ | refine r_block ?_ | refine fork_not ?_ | refine fork_and ?_ | refine fork_or ?_ | refine chk_ok (by kernel_rfl) ?_)
  | ((with_reducible first | refine fork_dec ?_ ?_ | refine fork_eq ?_ ?_ | refine fork_ne ?_ ?_ | refine fork_intro ?_ ?_) <;> intro h <;> try (exfalso; first | omega | exact h rfl | (revert h; decide) | (cases h; done)))
  | ((with_reducible show False); omega)
  | ((first | (with_reducible first | refine r_exit ?_ | refine r_skip ?_ | refine r_cond ?_ | refine r_region ?_ | refine r_ret ?_ | show VX _ _ _ _ _ _ _ | show vstep _ _ _ _ _ | show vskip _ _ _ | show withV _ _) | ((with_reducible show endA _ _ _ _ _ _ _); simp -implicitDefEqProofs only [endA]) | (with_reducible first | refine pick_viewG default (by first | omega | (simp only [LN]; omega)) (by first | omega | (simp only [LN]; omega)) ?_ | refine pick_own default (by first | omega | (simp only [LN]; omega)) ?_ | refine And.intro (by first | decide | omega | assumption | (simp only [LN]; omega)) ?_) | ((with_reducible apply callK_pure); (exact c8)) | ((with_reducible apply callF_lend); (exact c8); rfl) | ((with_reducible apply callF_go); (exact c8)) | (with_reducible first | apply callK_lent | apply callF_lent | apply hideP_own) | ((with_reducible apply callA_go); (first | exact kr | exact k37 | exact k39 | fail)) | ((with_reducible show pickE _ _ _); first | refine pickE_intro _ ⟨by omega, by rfl⟩ ?_ | refine pickE_intro _ (by rfl) ?_) | fail); try simp -dsimp -implicitDefEqProofs (maxSteps := 1000000) (disch := first | omega | (simp only [LN]; omega)) only [go_sem])
  | fail)
 all_goals first | (exact take_dd _ _)
end Go.Proofs.YtpcjeaaplidmaaaDoor