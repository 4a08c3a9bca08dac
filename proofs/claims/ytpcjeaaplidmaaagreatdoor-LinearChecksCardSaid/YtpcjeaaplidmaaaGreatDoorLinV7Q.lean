/- Contracts of functions of this program, and the plain facts that they rest on. No conditions. -/
import Derived.Test.YtpcjeaaplidmaaaGreatDoorLinV5Q
set_option linter.unusedSimpArgs false
set_option linter.unusedVariables false
namespace Go.Proofs.YtpcjeaaplidmaaaGreatDoor
open Go Go.Ab
attribute [local irreducible] callK callF loopQ vstep vskip pickE hideP
open Go.RowKit
set_option maxRecDepth 100000
attribute [local go_sem] eLot Hi.eC Hi.rC Hi.eE Hi.hc Hi.hP Hi.hX Hi.hW Hi.oH eI eB eL
theorem toI_eN (o : List Nat) : o.map eN = (toI o).map (fun n => PV.v (.int .i64 n)) := by unfold toI; rw [List.map_map]; rfl
attribute [local irreducible] sF finR checkR verM refV plH kdI
set_option maxRecDepth 100000 in
set_option maxHeartbeats 4000000 in
theorem l5 (kd : Int) (l : List Hi.S) (fin : LP) (wh : Int) (hr : ∀ s, s ∈ l → RngS s) (hfl : fin.length ≤ 140737488355328) : PCalls Tryz.prog 5 [eLot kd l, .view 2 (fin.map Sp.eP), .v (.int .i64 wh)] (.v (.bool true)) := by
 refine pcalls_facts ⟨_, rfl, rfl, by decide⟩ fun hf => ?_
 simp only [go_sem, big] at hf
 refine pcalls_of (E := E) (fn := Tryz.f5) 90 [.tmp 6] rfl rfl rfl rfl (by decide) rfl ?_
 have h1 := pl_calls kd l 6 (min l.length 40)
 have h2 := pl_ops kd l 6 hr (min l.length 40)
 have h3 := newK_kd kd
 have h4 := exam_ok h2
 have h5 := pl_len kd l 6 (min l.length 40)
 have hI := pl_inv kd l 6 (min l.length 40)
 have k18 := a18 kd l 6 (by decide)
 have k7 := c7 kd l
 have hkr := kdM_rng kd
 have hkd : 1 ≤ kdI kd ∧ kdI kd ≤ 4 := by unfold kdI; omega
 generalize plH kd l 6 (min l.length 40) = x at *
 generalize kdI kd = k at *
 have hw : IntKind.u8.wrap k = k := by rw [IntKind.wrap_u8]; omega
 have hc0 : checkE k x.cl = 0 := by unfold checkE; rw [if_neg (fun h => h h4), if_neg (by omega)]
 have hro := fun i hi => (h2 i hi).2
 have hera : ∀ i, i < x.cl.length → 0 ≤ (x.cl.getD i default).era := fun i hi => (hI.each i hi).2.2.2.2.1
 have k10 := r10 k x.ev.length x.era x.cl h3.1 h2 (by omega)
 have hSl : (sF (finR k x.cl) (finR k x.cl).length).length ≤ 100000000000 := by rw [sF_len]; exact finR_len k x.cl (by omega)
 have tail : ∀ f : LP, ∃ (ok : Bool) (o : List Int), (ok = false → o = []) ∧
   ACalls Tryz.prog 14 [.p (.v (.int .u8 k)), .loc 0 0, .p (.view 2 (f.map Sp.eP))] [Hi.oH x 1 2, .arr 2 (x.ev.map Hi.eE), .arr 11 (x.cl.map Hi.eC)] (.p (.tup [.view 1 (o.map eI), .v (.bool ok), .v (.int .i64 0)])) [Hi.oH x 1 2, .arr 2 (x.ev.map Hi.eE), .arr 11 (x.cl.map Hi.eC)] ∧
   PCalls Tryz.prog 22 [.v (.int .i64 k), Hi.hW x.cl x.ev.length x.era, .view 2 (f.map Sp.eP)] (.v (.bool ok)) ∧
   (ok = true → PCalls Tryz.prog 23 [.v (.int .i64 k), Hi.hW x.cl x.ev.length x.era, .view 1 (o.map eI), .view 2 (f.map Sp.eP)] (.v (.int .i64 0)) ∧
    ACalls Tryz.prog 24 [.p (.v (.int .u8 k)), .loc 0 0, .p (.view 1 (o.map eI)), .p (.view 2 (f.map Sp.eP))] [Hi.oH x 1 2, .arr 2 (x.ev.map Hi.eE), .arr 11 (x.cl.map Hi.eC)] (.p (.v (.int .i64 0))) [Hi.oH x 1 2, .arr 2 (x.ev.map Hi.eE), .arr 11 (x.cl.map Hi.eC)]) := fun f => by
  have k16 := o16 k x f hc0 hro
  have hci : (checkR k x.cl f).1 = true ↔ f ∈ finR k x.cl := by unfold finR; exact check_iff (x := f) h3.1 h2 (by omega)
  have k22 := r22 k x.ev.length x.era x.cl f h3.1 h2 (by omega) (checkR k x.cl f).1 hci
  cases hc : (checkR k x.cl f).1 with
  | false =>
   rw [hc] at k16 k22
   rw [if_neg Bool.false_ne_true] at k16
   exact ⟨false, [], fun _ => rfl, k16, k22, fun h => Bool.noConfusion h⟩
  | true =>
   have hg := check_snd hc
   have hlen := path_len _ _ _ hg.1
   have hfr := free_le 0 x.cl.length
   have hv := good_ver h4 hera hg
   rw [hc] at k16 k22
   rw [if_pos rfl, toI_eN] at k16
   generalize ((checkR k x.cl f).2.es.take (checkR k x.cl f).2.n) = o at *
   have k23 := r23 k x.cl x.ev.length x.era (toI o) f h3.1 h2 (by omega) (by rw [toI_len]; omega)
   have k19 := o19 k x (toI o) f (by omega) (by rw [toI_len]; omega) h4 hro
   rw [refV_eq h3.1 h3.2 h2 hera, hv] at k23
   rw [hv] at k19
   exact ⟨true, toI o, fun h => Bool.noConfusion h, k16, k22, fun _ => ⟨k23, k19⟩⟩
 generalize sF (finR k x.cl) (finR k x.cl).length = S at *
 have fin2 : ∀ f : LP, f.length ≤ 140737488355328 → ∃ g : LP, g = (if 8 < f.length then f.take 8 else f) ∧ g.length ≤ 8 := fun f _ => ⟨_, rfl, by split <;> (try rw [List.length_take]) <;> omega⟩
 by_cases hsel : 0 < S.length ∧ 0 ≤ wh
 ·have ht0 : 0 ≤ wh.tmod S.length := Int.tmod_nonneg _ hsel.2
  have ht1 : wh.tmod S.length < S.length := Int.tmod_lt_of_pos _ (by omega)
  obtain ⟨j, hj⟩ := Int.eq_ofNat_of_zero_le ht0
  have hjl : j < S.length := by omega
  by_cases h8 : 8 < (S.getD j default).length
  ·obtain ⟨ok, o, t1, t2, t3, t4⟩ := tail ((S.getD j default).take 8)
   cases ok with
   | false =>
    have e := t1 rfl
    subst e
    repeat' (first
     | (with_reducible first | refine r_seq ?_ | refine r_block ?_ | refine fork_not ?_ | refine fork_and ?_ | refine fork_or ?_ | refine chk_ok (by kernel_rfl) ?_)
     | ((with_reducible first | refine fork_dec ?_ ?_ | refine fork_eq ?_ ?_ | refine fork_ne ?_ ?_ | refine fork_intro ?_ ?_) <;> intro h <;> try (exfalso; first | omega | exact h rfl | (revert h; decide) | (cases h; done)))
     | ((with_reducible show False); omega)
     | ((first | (with_reducible first | refine r_exit ?_ | refine r_skip ?_ | refine r_cond ?_ | refine r_region ?_ | refine r_ret ?_ | show VX _ _ _ _ _ _ _ | show vstep _ _ _ _ _ | show vskip _ _ _ | show withV _ _) | ((with_reducible show endA _ _ _ _ _ _ _); simp -implicitDefEqProofs only [endA]) | (with_reducible first | refine pick_viewG default (by first | omega | (simp only [LN, hw, hj]; omega)) (by first | omega | (simp only [LN, hw, hj]; omega)) ?_ | refine pick_own default (by first | omega | (simp only [LN, hw, hj]; omega)) ?_ | refine And.intro (by first | decide | omega | assumption | (simp only [LN, hw, hj]; omega)) ?_) | ((with_reducible apply callK_pure); (first | exact c6 | exact k7 | exact k10 | exact c21 _ (by rw [List.length_take]; omega) | exact t3 | fail)) | ((with_reducible apply callF_lend); (first | exact c6 | exact k7 | exact k10 | exact c21 _ (by rw [List.length_take]; omega) | exact t3 | fail); rfl) | ((with_reducible apply callF_go); (first | exact c6 | exact k7 | exact k10 | exact c21 _ (by rw [List.length_take]; omega) | exact t3 | fail)) | (with_reducible first | apply callK_lent | apply callF_lent | apply hideP_own) | ((with_reducible apply callA_go); (first | exact k18 | exact t2 | fail)) | ((with_reducible show pickE _ _ _); first | refine pickE_intro _ ⟨by omega, by rfl⟩ ?_ | refine pickE_intro _ (by rfl) ?_) | fail); try simp -dsimp -implicitDefEqProofs (maxSteps := 1000000) (disch := first | omega | (simp only [LN, hw, hj]; omega)) only [go_sem, hw, hj])
     | fail)
    all_goals first | rfl | omega
   | true =>
    obtain ⟨t5, t6⟩ := t4 rfl
    repeat' (first
     | (with_reducible first | refine r_seq ?_ | refine r_block ?_ | refine fork_not ?_ | refine fork_and ?_ | refine fork_or ?_ | refine chk_ok (by kernel_rfl) ?_)
     | ((with_reducible first | refine fork_dec ?_ ?_ | refine fork_eq ?_ ?_ | refine fork_ne ?_ ?_ | refine fork_intro ?_ ?_) <;> intro h <;> try (exfalso; first | omega | exact h rfl | (revert h; decide) | (cases h; done)))
     | ((with_reducible show False); omega)
     | ((first | (with_reducible first | refine r_exit ?_ | refine r_skip ?_ | refine r_cond ?_ | refine r_region ?_ | refine r_ret ?_ | show VX _ _ _ _ _ _ _ | show vstep _ _ _ _ _ | show vskip _ _ _ | show withV _ _) | ((with_reducible show endA _ _ _ _ _ _ _); simp -implicitDefEqProofs only [endA]) | (with_reducible first | refine pick_viewG default (by first | omega | (simp only [LN, hw, hj]; omega)) (by first | omega | (simp only [LN, hw, hj]; omega)) ?_ | refine pick_own default (by first | omega | (simp only [LN, hw, hj]; omega)) ?_ | refine And.intro (by first | decide | omega | assumption | (simp only [LN, hw, hj]; omega)) ?_) | ((with_reducible apply callK_pure); (first | exact c6 | exact k7 | exact k10 | exact c21 _ (by rw [List.length_take]; omega) | exact t3 | exact t5 | fail)) | ((with_reducible apply callF_lend); (first | exact c6 | exact k7 | exact k10 | exact c21 _ (by rw [List.length_take]; omega) | exact t3 | exact t5 | fail); rfl) | ((with_reducible apply callF_go); (first | exact c6 | exact k7 | exact k10 | exact c21 _ (by rw [List.length_take]; omega) | exact t3 | exact t5 | fail)) | (with_reducible first | apply callK_lent | apply callF_lent | apply hideP_own) | ((with_reducible apply callA_go); (first | exact k18 | exact t2 | exact t6 | fail)) | ((with_reducible show pickE _ _ _); first | refine pickE_intro _ ⟨by omega, by rfl⟩ ?_ | refine pickE_intro _ (by rfl) ?_) | fail); try simp -dsimp -implicitDefEqProofs (maxSteps := 1000000) (disch := first | omega | (simp only [LN, hw, hj]; omega)) only [go_sem, hw, hj])
     | fail)
    all_goals first | rfl | omega
  ·obtain ⟨ok, o, t1, t2, t3, t4⟩ := tail (S.getD j default)
   cases ok with
   | false =>
    have e := t1 rfl
    subst e
    repeat' (first
     | (with_reducible first | refine r_seq ?_ | refine r_block ?_ | refine fork_not ?_ | refine fork_and ?_ | refine fork_or ?_ | refine chk_ok (by kernel_rfl) ?_)
     | ((with_reducible first | refine fork_dec ?_ ?_ | refine fork_eq ?_ ?_ | refine fork_ne ?_ ?_ | refine fork_intro ?_ ?_) <;> intro h <;> try (exfalso; first | omega | exact h rfl | (revert h; decide) | (cases h; done)))
     | ((with_reducible show False); omega)
     | ((first | (with_reducible first | refine r_exit ?_ | refine r_skip ?_ | refine r_cond ?_ | refine r_region ?_ | refine r_ret ?_ | show VX _ _ _ _ _ _ _ | show vstep _ _ _ _ _ | show vskip _ _ _ | show withV _ _) | ((with_reducible show endA _ _ _ _ _ _ _); simp -implicitDefEqProofs only [endA]) | (with_reducible first | refine pick_viewG default (by first | omega | (simp only [LN, hw, hj]; omega)) (by first | omega | (simp only [LN, hw, hj]; omega)) ?_ | refine pick_own default (by first | omega | (simp only [LN, hw, hj]; omega)) ?_ | refine And.intro (by first | decide | omega | assumption | (simp only [LN, hw, hj]; omega)) ?_) | ((with_reducible apply callK_pure); (first | exact c6 | exact k7 | exact k10 | exact c21 _ (by omega) | exact t3 | fail)) | ((with_reducible apply callF_lend); (first | exact c6 | exact k7 | exact k10 | exact c21 _ (by omega) | exact t3 | fail); rfl) | ((with_reducible apply callF_go); (first | exact c6 | exact k7 | exact k10 | exact c21 _ (by omega) | exact t3 | fail)) | (with_reducible first | apply callK_lent | apply callF_lent | apply hideP_own) | ((with_reducible apply callA_go); (first | exact k18 | exact t2 | fail)) | ((with_reducible show pickE _ _ _); first | refine pickE_intro _ ⟨by omega, by rfl⟩ ?_ | refine pickE_intro _ (by rfl) ?_) | fail); try simp -dsimp -implicitDefEqProofs (maxSteps := 1000000) (disch := first | omega | (simp only [LN, hw, hj]; omega)) only [go_sem, hw, hj])
     | fail)
    all_goals first | rfl | omega
   | true =>
    obtain ⟨t5, t6⟩ := t4 rfl
    repeat' (first
     | (with_reducible first | refine r_seq ?_ | refine r_block ?_ | refine fork_not ?_ | refine fork_and ?_ | refine fork_or ?_ | refine chk_ok (by kernel_rfl) ?_)
     | ((with_reducible first | refine fork_dec ?_ ?_ | refine fork_eq ?_ ?_ | refine fork_ne ?_ ?_ | refine fork_intro ?_ ?_) <;> intro h <;> try (exfalso; first | omega | exact h rfl | (revert h; decide) | (cases h; done)))
     | ((with_reducible show False); omega)
     | ((first | (with_reducible first | refine r_exit ?_ | refine r_skip ?_ | refine r_cond ?_ | refine r_region ?_ | refine r_ret ?_ | show VX _ _ _ _ _ _ _ | show vstep _ _ _ _ _ | show vskip _ _ _ | show withV _ _) | ((with_reducible show endA _ _ _ _ _ _ _); simp -implicitDefEqProofs only [endA]) | (with_reducible first | refine pick_viewG default (by first | omega | (simp only [LN, hw, hj]; omega)) (by first | omega | (simp only [LN, hw, hj]; omega)) ?_ | refine pick_own default (by first | omega | (simp only [LN, hw, hj]; omega)) ?_ | refine And.intro (by first | decide | omega | assumption | (simp only [LN, hw, hj]; omega)) ?_) | ((with_reducible apply callK_pure); (first | exact c6 | exact k7 | exact k10 | exact c21 _ (by omega) | exact t3 | exact t5 | fail)) | ((with_reducible apply callF_lend); (first | exact c6 | exact k7 | exact k10 | exact c21 _ (by omega) | exact t3 | exact t5 | fail); rfl) | ((with_reducible apply callF_go); (first | exact c6 | exact k7 | exact k10 | exact c21 _ (by omega) | exact t3 | exact t5 | fail)) | (with_reducible first | apply callK_lent | apply callF_lent | apply hideP_own) | ((with_reducible apply callA_go); (first | exact k18 | exact t2 | exact t6 | fail)) | ((with_reducible show pickE _ _ _); first | refine pickE_intro _ ⟨by omega, by rfl⟩ ?_ | refine pickE_intro _ (by rfl) ?_) | fail); try simp -dsimp -implicitDefEqProofs (maxSteps := 1000000) (disch := first | omega | (simp only [LN, hw, hj]; omega)) only [go_sem, hw, hj])
     | fail)
    all_goals first | rfl | omega
 ·by_cases h8 : 8 < fin.length
  ·obtain ⟨ok, o, t1, t2, t3, t4⟩ := tail (fin.take 8)
   cases ok with
   | false =>
    have e := t1 rfl
    subst e
    repeat' (first
     | (with_reducible first | refine r_seq ?_ | refine r_block ?_ | refine fork_not ?_ | refine fork_and ?_ | refine fork_or ?_ | refine chk_ok (by kernel_rfl) ?_)
     | ((with_reducible first | refine fork_dec ?_ ?_ | refine fork_eq ?_ ?_ | refine fork_ne ?_ ?_ | refine fork_intro ?_ ?_) <;> intro h <;> try (exfalso; first | omega | exact h rfl | (revert h; decide) | (cases h; done)))
     | ((with_reducible show False); omega)
     | ((first | (with_reducible first | refine r_exit ?_ | refine r_skip ?_ | refine r_cond ?_ | refine r_region ?_ | refine r_ret ?_ | show VX _ _ _ _ _ _ _ | show vstep _ _ _ _ _ | show vskip _ _ _ | show withV _ _) | ((with_reducible show endA _ _ _ _ _ _ _); simp -implicitDefEqProofs only [endA]) | (with_reducible first | refine pick_viewG default (by first | omega | (simp only [LN, hw]; omega)) (by first | omega | (simp only [LN, hw]; omega)) ?_ | refine pick_own default (by first | omega | (simp only [LN, hw]; omega)) ?_ | refine And.intro (by first | decide | omega | assumption | (simp only [LN, hw]; omega)) ?_) | ((with_reducible apply callK_pure); (first | exact c6 | exact k7 | exact k10 | exact c21 _ (by rw [List.length_take]; omega) | exact t3 | fail)) | ((with_reducible apply callF_lend); (first | exact c6 | exact k7 | exact k10 | exact c21 _ (by rw [List.length_take]; omega) | exact t3 | fail); rfl) | ((with_reducible apply callF_go); (first | exact c6 | exact k7 | exact k10 | exact c21 _ (by rw [List.length_take]; omega) | exact t3 | fail)) | (with_reducible first | apply callK_lent | apply callF_lent | apply hideP_own) | ((with_reducible apply callA_go); (first | exact k18 | exact t2 | fail)) | ((with_reducible show pickE _ _ _); first | refine pickE_intro _ ⟨by omega, by rfl⟩ ?_ | refine pickE_intro _ (by rfl) ?_) | fail); try simp -dsimp -implicitDefEqProofs (maxSteps := 1000000) (disch := first | omega | (simp only [LN, hw]; omega)) only [go_sem, hw])
     | fail)
    all_goals first | rfl | omega | (exfalso; exact hsel ⟨by omega, by omega⟩)
   | true =>
    obtain ⟨t5, t6⟩ := t4 rfl
    repeat' (first
     | (with_reducible first | refine r_seq ?_ | refine r_block ?_ | refine fork_not ?_ | refine fork_and ?_ | refine fork_or ?_ | refine chk_ok (by kernel_rfl) ?_)
     | ((with_reducible first | refine fork_dec ?_ ?_ | refine fork_eq ?_ ?_ | refine fork_ne ?_ ?_ | refine fork_intro ?_ ?_) <;> intro h <;> try (exfalso; first | omega | exact h rfl | (revert h; decide) | (cases h; done)))
     | ((with_reducible show False); omega)
     | ((first | (with_reducible first | refine r_exit ?_ | refine r_skip ?_ | refine r_cond ?_ | refine r_region ?_ | refine r_ret ?_ | show VX _ _ _ _ _ _ _ | show vstep _ _ _ _ _ | show vskip _ _ _ | show withV _ _) | ((with_reducible show endA _ _ _ _ _ _ _); simp -implicitDefEqProofs only [endA]) | (with_reducible first | refine pick_viewG default (by first | omega | (simp only [LN, hw]; omega)) (by first | omega | (simp only [LN, hw]; omega)) ?_ | refine pick_own default (by first | omega | (simp only [LN, hw]; omega)) ?_ | refine And.intro (by first | decide | omega | assumption | (simp only [LN, hw]; omega)) ?_) | ((with_reducible apply callK_pure); (first | exact c6 | exact k7 | exact k10 | exact c21 _ (by rw [List.length_take]; omega) | exact t3 | exact t5 | fail)) | ((with_reducible apply callF_lend); (first | exact c6 | exact k7 | exact k10 | exact c21 _ (by rw [List.length_take]; omega) | exact t3 | exact t5 | fail); rfl) | ((with_reducible apply callF_go); (first | exact c6 | exact k7 | exact k10 | exact c21 _ (by rw [List.length_take]; omega) | exact t3 | exact t5 | fail)) | (with_reducible first | apply callK_lent | apply callF_lent | apply hideP_own) | ((with_reducible apply callA_go); (first | exact k18 | exact t2 | exact t6 | fail)) | ((with_reducible show pickE _ _ _); first | refine pickE_intro _ ⟨by omega, by rfl⟩ ?_ | refine pickE_intro _ (by rfl) ?_) | fail); try simp -dsimp -implicitDefEqProofs (maxSteps := 1000000) (disch := first | omega | (simp only [LN, hw]; omega)) only [go_sem, hw])
     | fail)
    all_goals first | rfl | omega | (exfalso; exact hsel ⟨by omega, by omega⟩)
  ·obtain ⟨ok, o, t1, t2, t3, t4⟩ := tail fin
   cases ok with
   | false =>
    have e := t1 rfl
    subst e
    repeat' (first
     | (with_reducible first | refine r_seq ?_ | refine r_block ?_ | refine fork_not ?_ | refine fork_and ?_ | refine fork_or ?_ | refine chk_ok (by kernel_rfl) ?_)
     | ((with_reducible first | refine fork_dec ?_ ?_ | refine fork_eq ?_ ?_ | refine fork_ne ?_ ?_ | refine fork_intro ?_ ?_) <;> intro h <;> try (exfalso; first | omega | exact h rfl | (revert h; decide) | (cases h; done)))
     | ((with_reducible show False); omega)
     | ((first | (with_reducible first | refine r_exit ?_ | refine r_skip ?_ | refine r_cond ?_ | refine r_region ?_ | refine r_ret ?_ | show VX _ _ _ _ _ _ _ | show vstep _ _ _ _ _ | show vskip _ _ _ | show withV _ _) | ((with_reducible show endA _ _ _ _ _ _ _); simp -implicitDefEqProofs only [endA]) | (with_reducible first | refine pick_viewG default (by first | omega | (simp only [LN, hw]; omega)) (by first | omega | (simp only [LN, hw]; omega)) ?_ | refine pick_own default (by first | omega | (simp only [LN, hw]; omega)) ?_ | refine And.intro (by first | decide | omega | assumption | (simp only [LN, hw]; omega)) ?_) | ((with_reducible apply callK_pure); (first | exact c6 | exact k7 | exact k10 | exact c21 _ (by omega) | exact t3 | fail)) | ((with_reducible apply callF_lend); (first | exact c6 | exact k7 | exact k10 | exact c21 _ (by omega) | exact t3 | fail); rfl) | ((with_reducible apply callF_go); (first | exact c6 | exact k7 | exact k10 | exact c21 _ (by omega) | exact t3 | fail)) | (with_reducible first | apply callK_lent | apply callF_lent | apply hideP_own) | ((with_reducible apply callA_go); (first | exact k18 | exact t2 | fail)) | ((with_reducible show pickE _ _ _); first | refine pickE_intro _ ⟨by omega, by rfl⟩ ?_ | refine pickE_intro _ (by rfl) ?_) | fail); try simp -dsimp -implicitDefEqProofs (maxSteps := 1000000) (disch := first | omega | (simp only [LN, hw]; omega)) only [go_sem, hw])
     | fail)
    all_goals first | rfl | omega | (exfalso; exact hsel ⟨by omega, by omega⟩)
   | true =>
    obtain ⟨t5, t6⟩ := t4 rfl
    repeat' (first
     | (with_reducible first | refine r_seq ?_ | refine r_block ?_ | refine fork_not ?_ | refine fork_and ?_ | refine fork_or ?_ | refine chk_ok (by kernel_rfl) ?_)
     | ((with_reducible first | refine fork_dec ?_ ?_ | refine fork_eq ?_ ?_ | refine fork_ne ?_ ?_ | refine fork_intro ?_ ?_) <;> intro h <;> try (exfalso; first | omega | exact h rfl | (revert h; decide) | (cases h; done)))
     | ((with_reducible show False); omega)
     | ((first | (with_reducible first | refine r_exit ?_ | refine r_skip ?_ | refine r_cond ?_ | refine r_region ?_ | refine r_ret ?_ | show VX _ _ _ _ _ _ _ | show vstep _ _ _ _ _ | show vskip _ _ _ | show withV _ _) | ((with_reducible show endA _ _ _ _ _ _ _); simp -implicitDefEqProofs only [endA]) | (with_reducible first | refine pick_viewG default (by first | omega | (simp only [LN, hw]; omega)) (by first | omega | (simp only [LN, hw]; omega)) ?_ | refine pick_own default (by first | omega | (simp only [LN, hw]; omega)) ?_ | refine And.intro (by first | decide | omega | assumption | (simp only [LN, hw]; omega)) ?_) | ((with_reducible apply callK_pure); (first | exact c6 | exact k7 | exact k10 | exact c21 _ (by omega) | exact t3 | exact t5 | fail)) | ((with_reducible apply callF_lend); (first | exact c6 | exact k7 | exact k10 | exact c21 _ (by omega) | exact t3 | exact t5 | fail); rfl) | ((with_reducible apply callF_go); (first | exact c6 | exact k7 | exact k10 | exact c21 _ (by omega) | exact t3 | exact t5 | fail)) | (with_reducible first | apply callK_lent | apply callF_lent | apply hideP_own) | ((with_reducible apply callA_go); (first | exact k18 | exact t2 | exact t6 | fail)) | ((with_reducible show pickE _ _ _); first | refine pickE_intro _ ⟨by omega, by rfl⟩ ?_ | refine pickE_intro _ (by rfl) ?_) | fail); try simp -dsimp -implicitDefEqProofs (maxSteps := 1000000) (disch := first | omega | (simp only [LN, hw]; omega)) only [go_sem, hw])
     | fail)
    all_goals first | rfl | omega | (exfalso; exact hsel ⟨by omega, by omega⟩)
end Go.Proofs.YtpcjeaaplidmaaaGreatDoor