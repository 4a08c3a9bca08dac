/- Contracts of functions of this program, and the plain facts that they rest on. No conditions. -/
import Derived.Test.YtpcjeaaplidmaaaGreatDoorLinV3Q
import Derived.Test.YtpcjeaaplidmaaaGreatDoorLinKQ
import Derived.Test.YtpcjeaaplidmaaaGreatDoorLinLQ
set_option linter.unusedSimpArgs false
set_option linter.unusedVariables false
namespace Go.Proofs.YtpcjeaaplidmaaaGreatDoor
open Go Go.Ab
attribute [local irreducible] callK callF loopQ vstep vskip pickE hideP
open Go.RowKit
set_option maxRecDepth 100000
attribute [local go_sem] eLot Hi.eC Hi.rC Hi.eE Hi.hc Hi.hP Hi.hX Hi.hW Hi.oH eI eB
set_option maxRecDepth 100000 in
set_option maxHeartbeats 4000000 in
theorem l6 (kd : Int) (l : List Hi.S) (ord : List Int) (fin : LP) (hr : ∀ s, s ∈ l → RngS s) : PCalls Tryz.prog 6 [eLot kd l, .view 1 (ord.map eI), .view 2 (fin.map Sp.eP)] (.v (.bool true)) := by
 refine pcalls_facts ⟨_, rfl, rfl, by decide⟩ fun hf => ?_
 simp only [go_sem, big] at hf
 refine pcalls_of (E := E) (fn := Tryz.f6) 46 [.tmp 6] rfl rfl rfl rfl (by decide) rfl ?_
 have h1 := pl_calls kd l 12 (min l.length 40)
 have h2 := pl_ops kd l 12 hr (min l.length 40)
 have h3 := newK_kd kd
 have h4 := exam_ok h2
 have h5 := pl_len kd l 12 (min l.length 40)
 have hI := pl_inv kd l 12 (min l.length 40)
 have k18 := a18 kd l 12 (by decide)
 have k7 := c7 kd l
 have hkr := kdM_rng kd
 have hkd : 1 ≤ kdI kd ∧ kdI kd ≤ 4 := by unfold kdI; omega
 generalize plH kd l 12 (min l.length 40) = x at *
 generalize kdI kd = k at *
 have hw : IntKind.u8.wrap k = k := by rw [IntKind.wrap_u8]; omega
 have hro := fun i hi => (h2 i hi).2
 have hera : ∀ i, i < x.cl.length → 0 ≤ (x.cl.getD i default).era := fun i hi => (hI.each i hi).2.2.2.2.1
 have k19 := fun o fin (ho : List.length o ≤ 1000) => o19 k x o fin (by omega) ho h4 hro
 have k23 := fun o fin (ho : List.length o ≤ 1000) => r23 k x.cl x.ev.length x.era o fin h3.1 h2 (by omega) ho
 have hve : ∀ o fin, refV k x.cl o fin = verM k x.cl o fin := fun o fin => refV_eq h3.1 h3.2 h2 hera
 simp only [hve] at k23
 by_cases g1 : ord.length > 16
 ·by_cases g2 : fin.length > 12
  ·repeat' (first
    | (with_reducible first | refine r_seq ?_ | refine r_block ?_ | refine fork_not ?_ | refine fork_and ?_ | refine fork_or ?_ | refine chk_ok (by kernel_rfl) ?_)
    | ((with_reducible first | refine fork_dec ?_ ?_ | refine fork_eq ?_ ?_ | refine fork_ne ?_ ?_ | refine fork_intro ?_ ?_) <;> intro h <;> try (exfalso; first | omega | exact h rfl | (revert h; decide) | (cases h; done)))
    | ((with_reducible show False); omega)
    | ((first | (with_reducible first | refine r_exit ?_ | refine r_skip ?_ | refine r_cond ?_ | refine r_region ?_ | show VX _ _ _ _ _ _ _ | show vstep _ _ _ _ _ | show vskip _ _ _ | show withV _ _) | ((with_reducible show endA _ _ _ _ _ _ _); simp -implicitDefEqProofs only [endA])); simp -dsimp -implicitDefEqProofs (maxSteps := 1000000) (disch := first | omega | (simp only [LN, hw]; omega)) only [go_sem, hw])
    | ((first | (with_reducible refine r_ret ?_) | (with_reducible refine pick_viewG default (by first | omega | (simp only [LN, hw]; omega)) (by first | omega | (simp only [LN, hw]; omega)) ?_) | (with_reducible refine pick_own default (by first | omega | (simp only [LN, hw]; omega)) ?_) | (with_reducible refine And.intro (by first | decide | omega | assumption | (simp only [LN, hw]; omega)) ?_) | ((with_reducible apply callK_pure); (first | exact c6 | exact k7 | exact c21 _ (by rw [List.length_take]; omega) | exact k23 (ord.take 16) (fin.take 12) (by rw [List.length_take]; omega) | fail)) | ((with_reducible apply callF_lend); (first | exact c6 | exact k7 | exact c21 _ (by rw [List.length_take]; omega) | exact k23 (ord.take 16) (fin.take 12) (by rw [List.length_take]; omega) | fail); rfl) | ((with_reducible apply callF_go); (first | exact c6 | exact k7 | exact c21 _ (by rw [List.length_take]; omega) | exact k23 (ord.take 16) (fin.take 12) (by rw [List.length_take]; omega) | fail)) | (with_reducible first | apply callK_lent | apply callF_lent | apply hideP_own) | ((with_reducible apply callA_go); (first | exact k18 | exact k19 (ord.take 16) (fin.take 12) (by rw [List.length_take]; omega) | fail)) | ((with_reducible show pickE _ _ _); first | refine pickE_intro _ ⟨by omega, by rfl⟩ ?_ | refine pickE_intro _ (by rfl) ?_) | fail); try simp -dsimp -implicitDefEqProofs (maxSteps := 1000000) (disch := first | omega | (simp only [LN, hw]; omega)) only [go_sem, hw])
    | fail)
   all_goals first | rfl | omega | (rw [beqI, decide_eq_true rfl]; done)
  ·repeat' (first
    | (with_reducible first | refine r_seq ?_ | refine r_block ?_ | refine fork_not ?_ | refine fork_and ?_ | refine fork_or ?_ | refine chk_ok (by kernel_rfl) ?_)
    | ((with_reducible first | refine fork_dec ?_ ?_ | refine fork_eq ?_ ?_ | refine fork_ne ?_ ?_ | refine fork_intro ?_ ?_) <;> intro h <;> try (exfalso; first | omega | exact h rfl | (revert h; decide) | (cases h; done)))
    | ((with_reducible show False); omega)
    | ((first | (with_reducible first | refine r_exit ?_ | refine r_skip ?_ | refine r_cond ?_ | refine r_region ?_ | show VX _ _ _ _ _ _ _ | show vstep _ _ _ _ _ | show vskip _ _ _ | show withV _ _) | ((with_reducible show endA _ _ _ _ _ _ _); simp -implicitDefEqProofs only [endA])); simp -dsimp -implicitDefEqProofs (maxSteps := 1000000) (disch := first | omega | (simp only [LN, hw]; omega)) only [go_sem, hw])
    | ((first | (with_reducible refine r_ret ?_) | (with_reducible refine pick_viewG default (by first | omega | (simp only [LN, hw]; omega)) (by first | omega | (simp only [LN, hw]; omega)) ?_) | (with_reducible refine pick_own default (by first | omega | (simp only [LN, hw]; omega)) ?_) | (with_reducible refine And.intro (by first | decide | omega | assumption | (simp only [LN, hw]; omega)) ?_) | ((with_reducible apply callK_pure); (first | exact c6 | exact k7 | exact c21 fin (by omega) | exact k23 (ord.take 16) fin (by rw [List.length_take]; omega) | fail)) | ((with_reducible apply callF_lend); (first | exact c6 | exact k7 | exact c21 fin (by omega) | exact k23 (ord.take 16) fin (by rw [List.length_take]; omega) | fail); rfl) | ((with_reducible apply callF_go); (first | exact c6 | exact k7 | exact c21 fin (by omega) | exact k23 (ord.take 16) fin (by rw [List.length_take]; omega) | fail)) | (with_reducible first | apply callK_lent | apply callF_lent | apply hideP_own) | ((with_reducible apply callA_go); (first | exact k18 | exact k19 (ord.take 16) fin (by rw [List.length_take]; omega) | fail)) | ((with_reducible show pickE _ _ _); first | refine pickE_intro _ ⟨by omega, by rfl⟩ ?_ | refine pickE_intro _ (by rfl) ?_) | fail); try simp -dsimp -implicitDefEqProofs (maxSteps := 1000000) (disch := first | omega | (simp only [LN, hw]; omega)) only [go_sem, hw])
    | fail)
   all_goals first | rfl | omega | (rw [beqI, decide_eq_true rfl]; done)
 ·by_cases g2 : fin.length > 12
  ·repeat' (first
    | (with_reducible first | refine r_seq ?_ | refine r_block ?_ | refine fork_not ?_ | refine fork_and ?_ | refine fork_or ?_ | refine chk_ok (by kernel_rfl) ?_)
    | ((with_reducible first | refine fork_dec ?_ ?_ | refine fork_eq ?_ ?_ | refine fork_ne ?_ ?_ | refine fork_intro ?_ ?_) <;> intro h <;> try (exfalso; first | omega | exact h rfl | (revert h; decide) | (cases h; done)))
    | ((with_reducible show False); omega)
    | ((first | (with_reducible first | refine r_exit ?_ | refine r_skip ?_ | refine r_cond ?_ | refine r_region ?_ | show VX _ _ _ _ _ _ _ | show vstep _ _ _ _ _ | show vskip _ _ _ | show withV _ _) | ((with_reducible show endA _ _ _ _ _ _ _); simp -implicitDefEqProofs only [endA])); simp -dsimp -implicitDefEqProofs (maxSteps := 1000000) (disch := first | omega | (simp only [LN, hw]; omega)) only [go_sem, hw])
    | ((first | (with_reducible refine r_ret ?_) | (with_reducible refine pick_viewG default (by first | omega | (simp only [LN, hw]; omega)) (by first | omega | (simp only [LN, hw]; omega)) ?_) | (with_reducible refine pick_own default (by first | omega | (simp only [LN, hw]; omega)) ?_) | (with_reducible refine And.intro (by first | decide | omega | assumption | (simp only [LN, hw]; omega)) ?_) | ((with_reducible apply callK_pure); (first | exact c6 | exact k7 | exact c21 _ (by rw [List.length_take]; omega) | exact k23 ord (fin.take 12) (by omega) | fail)) | ((with_reducible apply callF_lend); (first | exact c6 | exact k7 | exact c21 _ (by rw [List.length_take]; omega) | exact k23 ord (fin.take 12) (by omega) | fail); rfl) | ((with_reducible apply callF_go); (first | exact c6 | exact k7 | exact c21 _ (by rw [List.length_take]; omega) | exact k23 ord (fin.take 12) (by omega) | fail)) | (with_reducible first | apply callK_lent | apply callF_lent | apply hideP_own) | ((with_reducible apply callA_go); (first | exact k18 | exact k19 ord (fin.take 12) (by omega) | fail)) | ((with_reducible show pickE _ _ _); first | refine pickE_intro _ ⟨by omega, by rfl⟩ ?_ | refine pickE_intro _ (by rfl) ?_) | fail); try simp -dsimp -implicitDefEqProofs (maxSteps := 1000000) (disch := first | omega | (simp only [LN, hw]; omega)) only [go_sem, hw])
    | fail)
   all_goals first | rfl | omega | (rw [beqI, decide_eq_true rfl]; done)
  ·repeat' (first
    | (with_reducible first | refine r_seq ?_ | refine r_block ?_ | refine fork_not ?_ | refine fork_and ?_ | refine fork_or ?_ | refine chk_ok (by kernel_rfl) ?_)
    | ((with_reducible first | refine fork_dec ?_ ?_ | refine fork_eq ?_ ?_ | refine fork_ne ?_ ?_ | refine fork_intro ?_ ?_) <;> intro h <;> try (exfalso; first | omega | exact h rfl | (revert h; decide) | (cases h; done)))
    | ((with_reducible show False); omega)
    | ((first | (with_reducible first | refine r_exit ?_ | refine r_skip ?_ | refine r_cond ?_ | refine r_region ?_ | show VX _ _ _ _ _ _ _ | show vstep _ _ _ _ _ | show vskip _ _ _ | show withV _ _) | ((with_reducible show endA _ _ _ _ _ _ _); simp -implicitDefEqProofs only [endA])); simp -dsimp -implicitDefEqProofs (maxSteps := 1000000) (disch := first | omega | (simp only [LN, hw]; omega)) only [go_sem, hw])
    | ((first | (with_reducible refine r_ret ?_) | (with_reducible refine pick_viewG default (by first | omega | (simp only [LN, hw]; omega)) (by first | omega | (simp only [LN, hw]; omega)) ?_) | (with_reducible refine pick_own default (by first | omega | (simp only [LN, hw]; omega)) ?_) | (with_reducible refine And.intro (by first | decide | omega | assumption | (simp only [LN, hw]; omega)) ?_) | ((with_reducible apply callK_pure); (first | exact c6 | exact k7 | exact c21 fin (by omega) | exact k23 ord fin (by omega) | fail)) | ((with_reducible apply callF_lend); (first | exact c6 | exact k7 | exact c21 fin (by omega) | exact k23 ord fin (by omega) | fail); rfl) | ((with_reducible apply callF_go); (first | exact c6 | exact k7 | exact c21 fin (by omega) | exact k23 ord fin (by omega) | fail)) | (with_reducible first | apply callK_lent | apply callF_lent | apply hideP_own) | ((with_reducible apply callA_go); (first | exact k18 | exact k19 ord fin (by omega) | fail)) | ((with_reducible show pickE _ _ _); first | refine pickE_intro _ ⟨by omega, by rfl⟩ ?_ | refine pickE_intro _ (by rfl) ?_) | fail); try simp -dsimp -implicitDefEqProofs (maxSteps := 1000000) (disch := first | omega | (simp only [LN, hw]; omega)) only [go_sem, hw])
    | fail)
   all_goals first | rfl | omega | (rw [beqI, decide_eq_true rfl]; done)
end Go.Proofs.YtpcjeaaplidmaaaGreatDoor
