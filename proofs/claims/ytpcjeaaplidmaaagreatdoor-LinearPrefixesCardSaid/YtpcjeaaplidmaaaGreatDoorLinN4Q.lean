/- Contracts of functions of this program, and the plain facts that they rest on. No conditions. -/
import Derived.Test.YtpcjeaaplidmaaaGreatDoorLinN3Q
import Derived.Test.YtpcjeaaplidmaaaGreatDoorLinKQ
import Derived.Test.YtpcjeaaplidmaaaGreatDoorLinLQ
import Derived.Test.YtpcjeaaplidmaaaGreatDoorLinV3Q
set_option linter.unusedSimpArgs false
set_option linter.unusedVariables false
namespace Go.Proofs.YtpcjeaaplidmaaaGreatDoor
open Go Go.Ab
attribute [local irreducible] callK callF loopQ vstep vskip pickE hideP
open Go.RowKit
set_option maxRecDepth 100000
theorem preL_len {k : Int} {cl : List Hi.C} (hl : cl.length ≤ 10) : (preL k cl).length ≤ 100000000000 := by
 unfold preL
 exact Nat.le_trans (dd_len _) (by rw [srtL_len]; exact prefR_len k cl hl)
theorem pre_check {k : Int} {cl : List Hi.C} (hk : Sp.newK k = k) (hro : ∀ i, i < cl.length → RngO (opC (cl.getD i default))) (hl : cl.length ≤ 10) {x : LP} (h : x ∈ preL k cl) : (checkR k cl x).1 = true := by
 cases hc : (checkR k cl x).1 with
 | true => rfl
 | false =>
  obtain ⟨o, ho⟩ := (pre_mem hk hro hl).1 h
  exact absurd ho (check_cmp hk hl hro hc o)
theorem end_ok {cl : List Hi.C} (hro : ∀ i, i < cl.length → RngO (opC (cl.getD i default))) : ∀ (o : List Nat) (s : Sp.S) (u b : Nat), OkS s b → pathOk cl s u o → OkS (endS cl s o) (b + o.length)
 | [], s, u, b, h, _ => h
 | i :: o, s, u, b, h, hp => by
  have := end_ok hro o (nxt cl s i) (u ||| 2 ^ i) (b + 1) (ok_apply h (hro i hp.1.1)) hp.2
  rw [List.length_cons, show b + (o.length + 1) = b + 1 + o.length by omega]
  exact this
theorem pre_len {k : Int} {cl : List Hi.C} (hk : Sp.newK k = k) (hro : ∀ i, i < cl.length → RngO (opC (cl.getD i default))) (hl : cl.length ≤ 10) {x : LP} (h : x ∈ preL k cl) : x.length ≤ 100 := by
 obtain ⟨o, h1, h2, h3⟩ := (pre_mem hk hro hl).1 h
 have h4 := path_len _ _ _ h1
 have h5 := free_le 0 cl.length
 have h6 := Sp.cont_len (end_ok hro o (ini k) 0 0 (ok_ini k hk) h1).inv
 have h7 : Sp.contM (endS cl (ini k) o) = x := of_decide_eq_true h3
 rw [h7] at h6
 omega
theorem mem_getD {S : List LP} {i : Nat} (hi : i < S.length) : S.getD i default ∈ S := by
 rw [List.getD_eq_getElem?_getD, List.getElem?_eq_getElem hi]; exact List.getElem_mem hi
attribute [local go_sem] eLot Hi.eC Hi.rC Hi.eE Hi.hc Hi.hP Hi.hX Hi.hW Hi.oH eI eB eL Hi.oW Hi.oP
set_option maxRecDepth 100000 in
set_option maxHeartbeats 4000000 in
theorem c13 (l : LP) (hl : l.length ≤ 100000) : PCalls Tryz.prog 13 [.view 2 (l.map Sp.eP)] (.view 2 (l.map Sp.eP)) := by
 refine pcalls_facts ⟨_, rfl, rfl, by decide⟩ fun hf => ?_
 simp only [go_sem, big] at hf
 refine pcalls_of (E := E) (fn := Tryz.f13) 22 [.tmp 2] rfl rfl rfl rfl (by decide) rfl ?_
 repeat' (first
  | (with_reducible first | refine r_seq ?_ | refine r_block ?_ | refine fork_not ?_ | refine fork_and ?_ | refine fork_or ?_ | refine chk_ok (by kernel_rfl) ?_)
  | ((with_reducible first | refine fork_dec ?_ ?_ | refine fork_eq ?_ ?_ | refine fork_ne ?_ ?_ | refine fork_intro ?_ ?_) <;> intro h)
  | ((with_reducible show False); omega)
  | ((first | (with_reducible first | refine r_exit ?_ | refine r_skip ?_ | refine r_cond ?_ | refine r_region ?_ | refine r_ret ?_ | show VX _ _ _ _ _ _ _ | show vstep _ _ _ _ _ | show vskip _ _ _ | show withV _ _) | ((with_reducible show endA _ _ _ _ _ _ _); simp -implicitDefEqProofs only [endA]) | (with_reducible first | refine pick_viewG default (by first | omega | (simp only [LN]; omega)) (by first | omega | (simp only [LN]; omega)) ?_ | refine pick_own default (by first | omega | (simp only [LN]; omega)) ?_ | refine And.intro (by first | decide | omega | assumption | (simp only [LN]; omega)) ?_) | ((with_reducible show pickE _ _ _); first | refine pickE_intro _ ⟨by omega, by rfl⟩ ?_ | refine pickE_intro _ (by rfl) ?_) | fail); try simp -dsimp -implicitDefEqProofs (maxSteps := 1000000) (disch := first | omega | (simp only [LN]; omega)) only [go_sem])
  | fail)
 refine r_loopA (α := Nat) [6, 7] (fun i b => [(3, .sl b 2 0 i), (8, aI i)]) (fun i b => []) (fun i => [.arr 2 ((l.take i).map Sp.eP)]) (fun i => i ≤ l.length) (fun i => l.length - i) (0) ?h0_1 ?hs0_1 ?I_1 ?hI_1 ?round_1
 case hI_1 => intro x; (simp -dsimp -implicitDefEqProofs (maxSteps := 1000000) (disch := first | omega | (simp only [LN]; omega)) only [go_sem]) <;> exact rfl
 case hs0_1 => refine wk_auto ?_; (simp -dsimp -implicitDefEqProofs (maxSteps := 1000000) (disch := first | omega | (simp only [LN]; omega)) only [go_sem]) <;> (try omega)
 case h0_1 => omega
 case round_1 =>
  intro i h1
  by_cases hi : i < l.length
  ·have e := take_getD (default : Int × Int) hi
   repeat' (first
    | (with_reducible first | refine r_seq ?_ | refine r_block ?_ | refine fork_not ?_ | refine fork_and ?_ | refine fork_or ?_ | refine chk_ok (by kernel_rfl) ?_)
    | ((with_reducible first | refine fork_dec ?_ ?_ | refine fork_eq ?_ ?_ | refine fork_ne ?_ ?_ | refine fork_intro ?_ ?_) <;> intro h <;> try (exfalso; first | omega | exact h rfl | (revert h; decide) | (cases h; done)))
    | ((with_reducible show False); omega)
    | ((first | (with_reducible first | refine r_exit ?_ | refine r_skip ?_ | refine r_cond ?_ | refine r_region ?_ | refine r_ret ?_ | show VX _ _ _ _ _ _ _ | show vstep _ _ _ _ _ | show vskip _ _ _ | show withV _ _) | ((with_reducible show endA _ _ _ _ _ _ _); simp -implicitDefEqProofs only [endA]) | (with_reducible first | refine pick_viewG default (by first | omega | (simp only [LN]; omega)) (by first | omega | (simp only [LN]; omega)) ?_ | refine pick_own default (by first | omega | (simp only [LN]; omega)) ?_ | refine And.intro (by first | decide | omega | assumption | (simp only [LN]; omega)) ?_) | ((with_reducible show pickE _ _ _); first | refine pickE_intro _ ⟨by omega, by rfl⟩ ?_ | refine pickE_intro _ (by rfl) ?_) | fail); try simp -dsimp -implicitDefEqProofs (maxSteps := 1000000) (disch := first | omega | (simp only [LN]; omega)) only [go_sem])
    | fail)
   all_goals first | omega | (refine loopQ_next (i + 1) ?_ ?_ ?_; (omega); (show _ < _; omega); (simp -dsimp -implicitDefEqProofs (maxSteps := 1000000) (disch := first | omega | (simp only [LN, e, List.map_append]; omega)) only [go_sem, e, List.map_append]; try trivial))
  ·obtain rfl : i = l.length := by omega
   repeat' (first
    | (with_reducible first | refine r_seq ?_ | refine r_block ?_ | refine fork_not ?_ | refine fork_and ?_ | refine fork_or ?_ | refine chk_ok (by kernel_rfl) ?_)
    | ((with_reducible first | refine fork_dec ?_ ?_ | refine fork_eq ?_ ?_ | refine fork_ne ?_ ?_ | refine fork_intro ?_ ?_) <;> intro h <;> try (exfalso; first | omega | exact h rfl | (revert h; decide) | (cases h; done)))
    | ((with_reducible show False); omega)
    | ((first | (with_reducible first | refine r_exit ?_ | refine r_skip ?_ | refine r_cond ?_ | refine r_region ?_ | refine r_ret ?_ | show VX _ _ _ _ _ _ _ | show vstep _ _ _ _ _ | show vskip _ _ _ | show withV _ _) | ((with_reducible show endA _ _ _ _ _ _ _); simp -implicitDefEqProofs only [endA]) | (with_reducible first | refine pick_viewG default (by first | omega | (simp only [LN]; omega)) (by first | omega | (simp only [LN]; omega)) ?_ | refine pick_own default (by first | omega | (simp only [LN]; omega)) ?_ | refine And.intro (by first | decide | omega | assumption | (simp only [LN]; omega)) ?_) | ((with_reducible show pickE _ _ _); first | refine pickE_intro _ ⟨by omega, by rfl⟩ ?_ | refine pickE_intro _ (by rfl) ?_) | fail); try simp -dsimp -implicitDefEqProofs (maxSteps := 1000000) (disch := first | omega | (simp only [LN]; omega)) only [go_sem])
    | fail)
   all_goals first | omega | (rw [List.take_length]; done)
attribute [local irreducible] sF finR checkR verM refV plH kdI preL
set_option maxRecDepth 100000 in
set_option maxHeartbeats 4000000 in
theorem l3 (kd : Int) (l : List Hi.S) (hr : ∀ s, s ∈ l → RngS s) : PCalls Tryz.prog 3 [eLot kd l] (.v (.bool true)) := by
 refine pcalls_of (E := E) (fn := Tryz.f3) 80 [.tmp 2] rfl rfl rfl rfl (by decide) rfl ?_
 have h1 := pl_calls kd l 6 (min l.length 40)
 have h2 := pl_ops kd l 6 hr (min l.length 40)
 have h3 := newK_kd kd
 have h4 := exam_ok h2
 have k18 := a18 kd l 6 (by decide)
 have k7 := c7 kd l
 have hkr := kdM_rng kd
 have hkd : 1 ≤ kdI kd ∧ kdI kd ≤ 4 := by unfold kdI; omega
 generalize plH kd l 6 (min l.length 40) = x at *
 generalize kdI kd = k at *
 have hw : IntKind.u8.wrap k = k := by rw [IntKind.wrap_u8]; omega
 have hc0 : checkE k x.cl = 0 := by unfold checkE; rw [if_neg (fun h => h h4), if_neg (by omega)]
 have hro := fun i hi => (h2 i hi).2
 have k10 := r10 k x.ev.length x.era x.cl h3.1 h2 (by omega)
 have k20 := o20g k x hc0 hro
 have hS := pre_fin h3.1 h2 (by omega)
 rw [← hS] at k10
 have hck := fun (f : LP) (hf : f ∈ preL k x.cl) => pre_check h3.1 hro (by omega) hf
 have hln := fun (f : LP) (hf : f ∈ preL k x.cl) => pre_len h3.1 hro (by omega) hf
 have hSl : (preL k x.cl).length ≤ 100000000000 := preL_len (by omega)
 generalize preL k x.cl = S at *
 repeat' (first
  | (with_reducible first | refine r_seq ?_ | refine r_block ?_ | refine fork_not ?_ | refine fork_and ?_ | refine fork_or ?_ | refine chk_ok (by kernel_rfl) ?_)
  | ((with_reducible first | refine fork_dec ?_ ?_ | refine fork_eq ?_ ?_ | refine fork_ne ?_ ?_ | refine fork_intro ?_ ?_) <;> intro h <;> try (exfalso; first | omega | exact h rfl | (revert h; decide) | (cases h; done)))
  | ((with_reducible show False); omega)
  | ((first | (with_reducible first | refine r_exit ?_ | refine r_skip ?_ | refine r_cond ?_ | refine r_region ?_ | refine r_ret ?_ | show VX _ _ _ _ _ _ _ | show vstep _ _ _ _ _ | show vskip _ _ _ | show withV _ _) | ((with_reducible show endA _ _ _ _ _ _ _); simp -implicitDefEqProofs only [endA]) | (with_reducible first | refine pick_viewG default (by first | omega | (simp only [LN, hw]; omega)) (by first | omega | (simp only [LN, hw]; omega)) ?_ | refine pick_own default (by first | omega | (simp only [LN, hw]; omega)) ?_ | refine And.intro (by first | decide | omega | assumption | (simp only [LN, hw]; omega)) ?_) | ((with_reducible apply callK_pure); (first | exact c6 | exact k7 | exact k10 | fail)) | ((with_reducible apply callF_lend); (first | exact c6 | exact k7 | exact k10 | fail); rfl) | ((with_reducible apply callF_go); (first | exact c6 | exact k7 | exact k10 | fail)) | (with_reducible first | apply callK_lent | apply callF_lent | apply hideP_own) | ((with_reducible apply callA_go); (first | exact k18 | exact k20 | fail)) | ((with_reducible show pickE _ _ _); first | refine pickE_intro _ ⟨by omega, by rfl⟩ ?_ | refine pickE_intro _ (by rfl) ?_) | fail); try simp -dsimp -implicitDefEqProofs (maxSteps := 1000000) (disch := first | omega | (simp only [LN, hw]; omega)) only [go_sem, hw])
  | fail)
 refine r_loopA (α := Nat) [3, 5, 6, 7, 46] (fun i b => [(47, aI i)]) (fun i b => []) (fun i => []) (fun i => i ≤ S.length) (fun i => S.length - i) (0) ?h0_2 ?hs0_2 ?I_2 ?hI_2 ?round_2
 case hI_2 => intro x; (simp -dsimp -implicitDefEqProofs (maxSteps := 1000000) (disch := first | omega | (simp only [LN]; omega)) only [go_sem]) <;> exact rfl
 case hs0_2 => refine wk_auto ?_; (simp -dsimp -implicitDefEqProofs (maxSteps := 1000000) (disch := first | omega | (simp only [LN]; omega)) only [go_sem]) <;> (try omega)
 case h0_2 => exact Nat.zero_le _
 case round_2 =>
  intro i hi0
  by_cases hi : i < S.length
  ·have hm := mem_getD hi
   have hl1 := hln _ hm
   have k16 := o16 k x (S.getD i default) hc0 hro
   rw [hck _ hm, if_pos rfl] at k16
   have k12 := r12 (S.getD i default) (S.getD i default)
   rw [decide_eq_true rfl] at k12
   have k13 := c13 (S.getD i default)
   repeat' (first
    | (with_reducible first | refine r_seq ?_ | refine r_block ?_ | refine fork_not ?_ | refine fork_and ?_ | refine fork_or ?_ | refine chk_ok (by kernel_rfl) ?_)
    | ((with_reducible first | refine fork_dec ?_ ?_ | refine fork_eq ?_ ?_ | refine fork_ne ?_ ?_ | refine fork_intro ?_ ?_) <;> intro h <;> try (exfalso; first | omega | exact h rfl | (revert h; decide) | (cases h; done)))
    | ((with_reducible show False); omega)
    | ((first | (with_reducible first | refine r_exit ?_ | refine r_skip ?_ | refine r_cond ?_ | refine r_region ?_ | refine r_ret ?_ | show VX _ _ _ _ _ _ _ | show vstep _ _ _ _ _ | show vskip _ _ _ | show withV _ _) | ((with_reducible show endA _ _ _ _ _ _ _); simp -implicitDefEqProofs only [endA]) | (with_reducible first | refine pick_viewG default (by first | omega | (simp only [LN, hw]; omega)) (by first | omega | (simp only [LN, hw]; omega)) ?_ | refine pick_own default (by first | omega | (simp only [LN, hw]; omega)) ?_ | refine And.intro (by first | decide | omega | assumption | (simp only [LN, hw]; omega)) ?_) | ((with_reducible apply callK_pure); (first | exact k12 | exact k13 (by omega) | fail)) | ((with_reducible apply callF_lend); (first | exact k12 | exact k13 (by omega) | fail); rfl) | ((with_reducible apply callF_go); (first | exact k12 | exact k13 (by omega) | fail)) | (with_reducible first | apply callK_lent | apply callF_lent | apply hideP_own) | ((with_reducible apply callA_go); (first | exact k16 | fail)) | ((with_reducible show pickE _ _ _); first | refine pickE_intro _ ⟨by omega, by rfl⟩ ?_ | refine pickE_intro _ (by rfl) ?_) | fail); try simp -dsimp -implicitDefEqProofs (maxSteps := 1000000) (disch := first | omega | (simp only [LN, hw]; omega)) only [go_sem, hw])
    | fail)
   all_goals first | omega | (refine loopQ_next (i + 1) ?_ ?_ ?_; (omega); (show _ < _; omega); (simp -dsimp -implicitDefEqProofs (maxSteps := 1000000) (disch := first | omega | (simp only [LN]; omega)) only [go_sem]; try trivial))
  ·repeat' (first
    | (with_reducible first | refine r_seq ?_ | refine r_block ?_ | refine fork_not ?_ | refine fork_and ?_ | refine fork_or ?_ | refine chk_ok (by kernel_rfl) ?_)
    | ((with_reducible first | refine fork_dec ?_ ?_ | refine fork_eq ?_ ?_ | refine fork_ne ?_ ?_ | refine fork_intro ?_ ?_) <;> intro h <;> try (exfalso; first | omega | exact h rfl | (revert h; decide) | (cases h; done)))
    | ((with_reducible show False); omega)
    | ((first | (with_reducible first | refine r_exit ?_ | refine r_skip ?_ | refine r_cond ?_ | refine r_region ?_ | refine r_ret ?_ | show VX _ _ _ _ _ _ _ | show vstep _ _ _ _ _ | show vskip _ _ _ | show withV _ _) | ((with_reducible show endA _ _ _ _ _ _ _); simp -implicitDefEqProofs only [endA]) | (with_reducible first | refine pick_viewG default (by first | omega | (simp only [LN, hw]; omega)) (by first | omega | (simp only [LN, hw]; omega)) ?_ | refine pick_own default (by first | omega | (simp only [LN, hw]; omega)) ?_ | refine And.intro (by first | decide | omega | assumption | (simp only [LN, hw]; omega)) ?_) | ((with_reducible show pickE _ _ _); first | refine pickE_intro _ ⟨by omega, by rfl⟩ ?_ | refine pickE_intro _ (by rfl) ?_) | fail); try simp -dsimp -implicitDefEqProofs (maxSteps := 1000000) (disch := first | omega | (simp only [LN, hw]; omega)) only [go_sem, hw])
    | fail)
   all_goals first | omega | rfl
end Go.Proofs.YtpcjeaaplidmaaaGreatDoor