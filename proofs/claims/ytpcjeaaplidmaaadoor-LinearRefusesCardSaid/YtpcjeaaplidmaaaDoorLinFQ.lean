/- Contracts of functions of this program, and the plain facts that they rest on. No conditions. -/
import Derived.Test.YtpcjeaaplidmaaaDoorLinEQ
set_option linter.unusedSimpArgs false
set_option linter.unusedVariables false
namespace Go.Proofs.YtpcjeaaplidmaaaDoor
open Go Go.Ab
attribute [local irreducible] callK callF loopQ vstep vskip pickE hideP
open Go.RowKit
set_option maxRecDepth 100000
attribute [local go_sem] Hi.eC Hi.hc Hi.hP sV eM eN
def checkE (k : Int) (l : List Hi.C) : Int := if examE k l ≠ 0 then examE k l else if 10 < l.length then 9 else 0
def fndC (fin : LP) (s : Sp.S) (a : List LP) : Bool × List LP := (decide (Sp.contM s = fin), a)
def checkR (k : Int) (l : List Hi.C) (fin : LP) : Bool × G := runM l (fndC fin) 11 (ini k) 0 ⟨[], [], 0, []⟩
set_option maxRecDepth 100000 in
set_option maxHeartbeats 4000000 in
theorem c29n (k : Int) : PCalls Tryd.prog 29 [.v (.int .u8 k), .v (.pointer none)] (.tup [.v (.pointer none), .v (.int .i64 1)]) := by
 refine pcalls_of (E := E) (fn := Tryd.f29) 73 [.tmp 4, .tmp 5] rfl rfl rfl rfl (by decide) rfl ?_
 repeat' (first
  | (with_reducible first | refine r_seq ?_ | refine r_block ?_ | refine fork_not ?_ | refine fork_and ?_ | refine fork_or ?_ | refine chk_ok (by kernel_rfl) ?_)
  | ((with_reducible first | refine fork_dec ?_ ?_ | refine fork_eq ?_ ?_ | refine fork_ne ?_ ?_ | refine fork_intro ?_ ?_) <;> intro h <;> try (exfalso; first | omega | exact h rfl | (revert h; decide) | (cases h; done)))
  | ((with_reducible show False); omega)
  | ((first | (with_reducible first | refine r_exit ?_ | refine r_skip ?_ | refine r_cond ?_ | refine r_region ?_ | refine r_ret ?_ | show VX _ _ _ _ _ _ _ | show vstep _ _ _ _ _ | show vskip _ _ _ | show withV _ _) | ((with_reducible show endA _ _ _ _ _ _ _); simp -implicitDefEqProofs only [endA]) | (with_reducible first | refine pick_viewG default (by first | omega | (simp only [LN]; omega)) (by first | omega | (simp only [LN]; omega)) ?_ | refine pick_own default (by first | omega | (simp only [LN]; omega)) ?_ | refine And.intro (by first | decide | omega | assumption | (simp only [LN]; omega)) ?_) | ((with_reducible apply callK_pure); (exact c35n k)) | ((with_reducible apply callF_lend); (exact c35n k); rfl) | ((with_reducible apply callF_go); (exact c35n k)) | ((with_reducible show pickE _ _ _); first | refine pickE_intro _ ⟨by omega, by rfl⟩ ?_ | refine pickE_intro _ (by rfl) ?_) | fail); try simp -dsimp -implicitDefEqProofs (maxSteps := 1000000) (disch := first | omega | (simp only [LN]; omega)) only [go_sem])
  | fail)
 all_goals first | rfl | (exact ⟨rfl, rfl⟩) | omega
set_option maxRecDepth 100000 in
set_option maxHeartbeats 4000000 in
theorem c16n (k : Int) (fin : LP) : PCalls Tryd.prog 16 [.v (.int .u8 k), .v (.pointer none), .view 2 (fin.map Sp.eP)] (.tup [.view 1 [], .v (.bool false), .v (.int .i64 1)]) := by
 refine pcalls_facts ⟨_, rfl, rfl, by decide⟩ fun hf => ?_
 simp only [go_sem, big] at hf
 refine pcalls_of (E := E) (fn := Tryd.f16) 32 [.tmp 6, .tmp 7, .tmp 8] rfl rfl rfl rfl (by decide) rfl ?_
 repeat' (first
  | (with_reducible first | refine r_seq ?_ | refine r_block ?_ | refine fork_not ?_ | refine fork_and ?_ | refine fork_or ?_ | refine chk_ok (by kernel_rfl) ?_)
  | ((with_reducible first | refine fork_dec ?_ ?_ | refine fork_eq ?_ ?_ | refine fork_ne ?_ ?_ | refine fork_intro ?_ ?_) <;> intro h <;> try (exfalso; first | omega | exact h rfl | (revert h; decide) | (cases h; done)))
  | ((with_reducible show False); omega)
  | ((first | (with_reducible first | refine r_exit ?_ | refine r_skip ?_ | refine r_cond ?_ | refine r_region ?_ | refine r_ret ?_ | show VX _ _ _ _ _ _ _ | show vstep _ _ _ _ _ | show vskip _ _ _ | show withV _ _) | ((with_reducible show endA _ _ _ _ _ _ _); simp -implicitDefEqProofs only [endA]) | (with_reducible first | refine pick_viewG default (by first | omega | (simp only [LN]; omega)) (by first | omega | (simp only [LN]; omega)) ?_ | refine pick_own default (by first | omega | (simp only [LN]; omega)) ?_ | refine And.intro (by first | decide | omega | assumption | (simp only [LN]; omega)) ?_) | ((with_reducible apply callK_pure); (exact c29n k)) | ((with_reducible apply callF_lend); (exact c29n k); rfl) | ((with_reducible apply callF_go); (exact c29n k)) | ((with_reducible show pickE _ _ _); first | refine pickE_intro _ ⟨by omega, by rfl⟩ ?_ | refine pickE_intro _ (by rfl) ?_) | fail); try simp -dsimp -implicitDefEqProofs (maxSteps := 1000000) (disch := first | omega | (simp only [LN]; omega)) only [go_sem])
  | fail)
 all_goals first | rfl | (exact ⟨rfl, rfl⟩) | omega
theorem check_0 {k : Int} {l : List Hi.C} (h : checkE k l = 0) : examE k l = 0 ∧ l.length ≤ 10 := by
 unfold checkE at h
 by_cases h1 : examE k l = 0
 ·rw [h1, if_neg (by decide)] at h
  by_cases h2 : 10 < l.length
  ·rw [if_pos h2] at h; cases h
  ·exact ⟨h1, by omega⟩
 ·rw [if_pos h1] at h; exact absurd h h1
theorem exam_k {k : Int} {l : List Hi.C} (h : examE k l = 0) : Sp.newK k = k ∧ k ≠ 0 := by
 unfold examE at h
 split at h
 ·cases h
 ·rename_i h1; omega
attribute [local irreducible] seenV keyM goM runM numL textP befL endN checkR
set_option maxRecDepth 100000 in
set_option maxHeartbeats 4000000 in
theorem c16 (k : Int) (x : Hi.H) (fin : LP) (h : checkE k x.cl = 0) (hro : ∀ i, i < x.cl.length → RngO (opC (x.cl.getD i default))) : PCalls Tryd.prog 16 [.v (.int .u8 k), Hi.hP x, .view 2 (fin.map Sp.eP)] (.tup [.view 1 (if (checkR k x.cl fin).1 = true then ((checkR k x.cl fin).2.es.take (checkR k x.cl fin).2.n).map eN else []), .v (.bool (checkR k x.cl fin).1), .v (.int .i64 0)]) := by
 refine pcalls_facts ⟨_, rfl, rfl, by decide⟩ fun hf => ?_
 simp only [go_sem, big] at hf
 refine pcalls_of (E := E) (fn := Tryd.f16) 32 [.tmp 6, .tmp 7, .tmp 8] rfl rfl rfl rfl (by decide) rfl ?_
 obtain ⟨h1, h2⟩ := check_0 h
 have hk := exam_k h1
 have kr := run_all x.cl fin h2 hro 11 (ini k) 0 0 ⟨[], [], 0, []⟩ (ok_ini k hk.1) (by decide) (by have := free_le 0 x.cl.length; omega) (Nat.pow_pos (by decide)) (Nat.le_refl _) (by decide)
 have hrn := run_n x.cl (fndC fin) 11 (ini k) 0 ⟨[], [], 0, []⟩ (Nat.le_refl _)
 have ke : runM x.cl (fun s a => (decide (Sp.contM s = fin), a)) 11 (ini k) 0 ⟨[], [], 0, []⟩ = checkR k x.cl fin := by unfold checkR; rfl
 rw [ke] at kr
 have ke2 : runM x.cl (fndC fin) 11 (ini k) 0 ⟨[], [], 0, []⟩ = checkR k x.cl fin := by unfold checkR; rfl
 rw [ke2] at hrn
 have hrn := hrn.1
 generalize checkR k x.cl fin = R at *
 obtain ⟨rb, rg⟩ := R
 dsimp only at kr hrn ⊢
 have c29 := a29 k x h1 h2
 have c8 := c8S k
 repeat' ((fail_if_success (with_reducible show awp _ _ (Code.region 5 _ _) _ _)); first
  | (with_reducible first | refine r_seq ?_ | refine r_block ?_ | refine fork_not ?_ | refine fork_and ?_ | refine fork_or ?_ | refine chk_ok (by kernel_rfl) ?_)
  | ((with_reducible first | refine fork_dec ?_ ?_ | refine fork_eq ?_ ?_ | refine fork_ne ?_ ?_ | refine fork_intro ?_ ?_) <;> intro h <;> try (exfalso; first | omega | exact h rfl | (revert h; decide) | (cases h; done)))
  | ((with_reducible show False); omega)
  | ((first | (with_reducible first | refine r_exit ?_ | refine r_skip ?_ | refine r_cond ?_ | refine r_region ?_ | refine r_ret ?_ | show VX _ _ _ _ _ _ _ | show vstep _ _ _ _ _ | show vskip _ _ _ | show withV _ _) | ((with_reducible show endA _ _ _ _ _ _ _); simp -implicitDefEqProofs only [endA]) | (with_reducible first | refine pick_viewG default (by first | omega | (simp only [LN, seenV_0]; omega)) (by first | omega | (simp only [LN, seenV_0]; omega)) ?_ | refine pick_own default (by first | omega | (simp only [LN, seenV_0]; omega)) ?_ | refine And.intro (by first | decide | omega | assumption | (simp only [LN, seenV_0]; omega)) ?_) | (with_reducible first | apply callK_lent | apply callF_lent | apply hideP_own) | ((with_reducible apply callA_go); (first | exact c29 | fail)) | ((with_reducible show pickE _ _ _); first | refine pickE_intro _ ⟨by omega, by rfl⟩ ?_ | refine pickE_intro _ (by rfl) ?_) | fail); try simp -dsimp -implicitDefEqProofs (maxSteps := 1000000) (disch := first | omega | (simp only [LN, seenV_0]; omega)) only [go_sem, seenV_0])
  | fail)
 refine r_turn [0, 9] (fun b => []) (fun b => [(1001, sV x.cl (endN x.cl) 2 3 (.sl b 1 0 0) (.fn 30 [.loc 0 0])), (1003, .mp none (.b (seenV [])))]) [.arr 1 []] fun I hI => ?_
 simp -dsimp -implicitDefEqProofs (maxSteps := 1000000) (disch := first | omega | (simp only [LN]; omega)) only [go_sem] at hI
 subst hI
 refine And.intro ?_ ?_
 ·(simp -dsimp -implicitDefEqProofs (maxSteps := 1000000) (disch := first | omega | (simp only [LN, seenV_0]; omega)) only [go_sem, seenV_0]) <;> (try omega)
 cases rb with
 | true =>
  repeat' (first
   | (with_reducible first | refine r_seq ?_ | refine r_block ?_ | refine fork_not ?_ | refine fork_and ?_ | refine fork_or ?_ | refine chk_ok (by kernel_rfl) ?_)
   | ((with_reducible first | refine fork_dec ?_ ?_ | refine fork_eq ?_ ?_ | refine fork_ne ?_ ?_ | refine fork_intro ?_ ?_) <;> intro h <;> try (exfalso; first | omega | exact h rfl | (revert h; decide) | (cases h; done)))
   | ((with_reducible show False); omega)
   | ((first | (with_reducible first | refine r_exit ?_ | refine r_skip ?_ | refine r_cond ?_ | refine r_region ?_ | refine r_ret ?_ | show VX _ _ _ _ _ _ _ | show vstep _ _ _ _ _ | show vskip _ _ _ | show withV _ _) | ((with_reducible show endA _ _ _ _ _ _ _); simp -implicitDefEqProofs only [endA]) | (with_reducible first | refine pick_viewG default (by first | omega | (simp only [LN]; omega)) (by first | omega | (simp only [LN]; omega)) ?_ | refine pick_own default (by first | omega | (simp only [LN]; omega)) ?_ | refine And.intro (by first | decide | omega | assumption | (simp only [LN]; omega)) ?_) | ((with_reducible apply callK_pure); (exact c8)) | ((with_reducible apply callF_lend); (exact c8); rfl) | ((with_reducible apply callF_go); (exact c8)) | (with_reducible first | apply callK_lent | apply callF_lent | apply hideP_own) | ((with_reducible apply callA_go); (first | exact kr | fail)) | ((with_reducible show pickE _ _ _); first | refine pickE_intro _ ⟨by omega, by rfl⟩ ?_ | refine pickE_intro _ (by rfl) ?_) | fail); try simp -dsimp -implicitDefEqProofs (maxSteps := 1000000) (disch := first | omega | (simp only [LN]; omega)) only [go_sem])
   | fail)
  all_goals first | (rw [if_pos trivial])
 | false =>
  repeat' (first
   | (with_reducible first | refine r_seq ?_ | refine r_block ?_ | refine fork_not ?_ | refine fork_and ?_ | refine fork_or ?_ | refine chk_ok (by kernel_rfl) ?_)
   | ((with_reducible first | refine fork_dec ?_ ?_ | refine fork_eq ?_ ?_ | refine fork_ne ?_ ?_ | refine fork_intro ?_ ?_) <;> intro h <;> try (exfalso; first | omega | exact h rfl | (revert h; decide) | (cases h; done)))
   | ((with_reducible show False); omega)
   | ((first | (with_reducible first | refine r_exit ?_ | refine r_skip ?_ | refine r_cond ?_ | refine r_region ?_ | refine r_ret ?_ | show VX _ _ _ _ _ _ _ | show vstep _ _ _ _ _ | show vskip _ _ _ | show withV _ _) | ((with_reducible show endA _ _ _ _ _ _ _); simp -implicitDefEqProofs only [endA]) | (with_reducible first | refine pick_viewG default (by first | omega | (simp only [LN]; omega)) (by first | omega | (simp only [LN]; omega)) ?_ | refine pick_own default (by first | omega | (simp only [LN]; omega)) ?_ | refine And.intro (by first | decide | omega | assumption | (simp only [LN]; omega)) ?_) | ((with_reducible apply callK_pure); (exact c8)) | ((with_reducible apply callF_lend); (exact c8); rfl) | ((with_reducible apply callF_go); (exact c8)) | (with_reducible first | apply callK_lent | apply callF_lent | apply hideP_own) | ((with_reducible apply callA_go); (first | exact kr | fail)) | ((with_reducible show pickE _ _ _); first | refine pickE_intro _ ⟨by omega, by rfl⟩ ?_ | refine pickE_intro _ (by rfl) ?_) | fail); try simp -dsimp -implicitDefEqProofs (maxSteps := 1000000) (disch := first | omega | (simp only [LN]; omega)) only [go_sem])
   | fail)
  all_goals first | (rw [if_neg Bool.false_ne_true])
end Go.Proofs.YtpcjeaaplidmaaaDoor