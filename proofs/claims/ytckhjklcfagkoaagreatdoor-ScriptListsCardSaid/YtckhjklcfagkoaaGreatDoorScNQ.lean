/- Contracts of functions of this program, and the plain facts that they rest on. No conditions. -/
import Derived.Test.YtckhjklcfagkoaaGreatDoorScMQ
import Derived.Test.YtckhjklcfagkoaaGreatDoorScIQ
import Derived.Test.YtckhjklcfagkoaaGreatDoorDvVQ
set_option linter.unusedSimpArgs false
set_option linter.unusedVariables false
namespace Go.Proofs.YtckhjklcfagkoaaGreatDoor
open Go Go.Ab
attribute [local irreducible] callK callF loopQ vstep vskip pickE hideP
set_option maxRecDepth 100000
def vsA : List Ev := [⟨1, 0, 0, 7, 0, 0, 0, []⟩, ⟨3, 0, 0, 0, 0, 0, 0, []⟩, ⟨4, 0, 0, 0, 0, 0, 0, []⟩, ⟨7, 0, 0, 0, 0, 0, 0, []⟩]
theorem num_0 : numL 0 = [48] := by simp [numL, Lib.itoa, Lib.decDigits]
theorem num_7 : numL 7 = [55] := by simp [numL, Lib.itoa, Lib.decDigits]
theorem vsA_ok : ∀ x, x ∈ vsA → okE x = true := by
 intro x hx
 simp only [vsA, List.mem_cons, List.not_mem_nil, or_false] at hx
 rcases hx with rfl | rfl | rfl | rfl <;> decide
theorem vsA_rng : ∀ x, x ∈ vsA → Rng x := by
 intro x hx
 simp only [vsA, List.mem_cons, List.not_mem_nil, or_false] at hx
 rcases hx with rfl | rfl | rfl | rfl <;> exact ⟨by decide, by decide, by decide, by decide, by decide, by decide⟩
theorem vsA_tx : txL vsA = [115, 116, 111, 114, 101, 32, 48, 32, 48, 32, 55, 10, 102, 108, 117, 115, 104, 32, 48, 32, 48, 10, 102, 101, 110, 99, 101, 32, 48, 10, 99, 114, 97, 115, 104, 32, 45, 10] := by
 have e1 := vsA_ok
 simp only [vsA, txL, lnE] at *
 rw [if_pos (e1 _ (by simp)), if_pos (e1 _ (by simp)), if_pos (e1 _ (by simp)), if_pos (e1 _ (by simp))]
 simp [txE, wsE, joinL, num_0, num_7, chL]
def Z8 : List Int := List.replicate 8 0
def A1 : Dv := { n := 1, per := Z8, cur := Z8.set 0 7, hist := upd (fun _ => []) 0 [(0, 7)], done := fun _ => 0, err := fun _ => 0, note := fun _ _ => none, off := false, armed := false, left := 0, ex := 1 }
theorem aw_1 : (Dv.fresh 1 Z8).step ⟨1, 0, 0, 7, 0, 0, 0, []⟩ = A1 ∧ (Dv.fresh 1 Z8).stepE ⟨1, 0, 0, 7, 0, 0, 0, []⟩ = 0 := by
 have hv : okE ⟨1, 0, 0, 7, 0, 0, 0, []⟩ = true := by decide
 have e : (Dv.fresh 1 Z8).step ⟨1, 0, 0, 7, 0, 0, 0, []⟩ = A1 := by
  unfold Dv.step; rw [if_pos hv]
  simp [Dv.store, Dv.cntB, Dv.cnt, Dv.isW, Dv.fresh, Dv.put, A1, IntKind.wrap_u64]
 refine ⟨e, ?_⟩
 unfold Dv.stepE; rw [if_pos hv, e]
 simp [A1, Dv.isW, Dv.fresh]
noncomputable def A2 : Dv := { A1 with note := upd (fun _ _ => none) 0 (updF (fun _ => none) (.int .i64 0) (some 1)), ex := 2 }
theorem aw_2 : A1.step ⟨3, 0, 0, 0, 0, 0, 0, []⟩ = A2 ∧ A1.stepE ⟨3, 0, 0, 0, 0, 0, 0, []⟩ = 0 := by
 have hv : okE ⟨3, 0, 0, 0, 0, 0, 0, []⟩ = true := by decide
 have e : A1.step ⟨3, 0, 0, 0, 0, 0, 0, []⟩ = A2 := by
  unfold Dv.step; rw [if_pos hv]
  simp [Dv.flush, Dv.cntB, Dv.cnt, Dv.isB, Dv.noted, A1, A2, IntKind.wrap_u64, upd]
 refine ⟨e, ?_⟩
 unfold Dv.stepE; rw [if_pos hv, e]
 simp [A1, A2, Dv.isB]
theorem aw_3 : (A2.step ⟨4, 0, 0, 0, 0, 0, 0, []⟩).n = 1 ∧ (A2.step ⟨4, 0, 0, 0, 0, 0, 0, []⟩).per.getD 0 0 = 7 ∧ A2.stepE ⟨4, 0, 0, 0, 0, 0, 0, []⟩ = 0 := by
 have hv : okE ⟨4, 0, 0, 0, 0, 0, 0, []⟩ = true := by decide
 have e : A2.step ⟨4, 0, 0, 0, 0, 0, 0, []⟩ = A2.fence 0 := by unfold Dv.step; rw [if_pos hv]; rfl
 have hc : A2.cntB true = true := by simp [Dv.cntB, A2, A1]
 have hf : A2.fence 0 = { fencS (A2.cnt 0 true) 0 (fun _ => True) with note := upd (A2.cnt 0 true).note 0 (fun _ => none) } := if_pos hc
 have hcn : A2.cnt 0 true = { A2 with ex := 3 } := by simp [Dv.cnt, A2, A1, IntKind.wrap_u64]
 refine ⟨by rw [e, fence_n]; rfl, ?_, ?_⟩
 ·rw [e, hf, hcn]
  show (fencS { A2 with ex := 3 } 0 (fun _ => True)).per.getD 0 0 = 7
  rw [fencS_per, contS_get _ _ _ (by decide)]
  have hk : kF { A2 with ex := 3 } 0 0 = 1 := by simp [kF, A2, A1, upd, updF]
  simp only [if_true, Nat.zero_div, hk]
  simp [A2, A1, upd, appL, Z8]
 ·unfold Dv.stepE; rw [if_pos hv, e, hf, hcn]
  simp [fencS, A2, A1]
theorem pB_get0 (ws : List Int) (m : Nat) (h : 0 < m) : (pB ws m).getD 0 0 = UInt8.ofNat (byW ws 0).toNat := by
 simp [pB, List.getD_eq_getElem?_getD, h]
theorem byL_0g (ws : List Int) (m : Nat) (h : 0 < m) : (byL ws m m)[0]? = some (.v (.int .u8 (byW ws 0))) := by
 simp [byL, h]
theorem crash_byte (P : Dv) (h1 : P.n = 1) (h2 : P.per.getD 0 0 = 7) : byW (P.crash []).per 0 = 7 := by
 have e := pB_crash P []
 have e2 : imgC P [] = P.per := by unfold imgC; exact if_pos rfl
 have en : (P.crash []).n = 1 := h1
 rw [e2, h1, en] at e
 have e4 : byW P.per 0 = 7 := by
  unfold byW; rw [Nat.zero_div, h2, IntKind.wrap_u8]; decide
 have e5 := pB_get0 (P.crash []).per (64 * 1) (by decide)
 rw [e, pB_get0 P.per (64 * 1) (by decide), e4] at e5
 have h1 : 0 ≤ byW (P.crash []).per 0 ∧ byW (P.crash []).per 0 < 256 := by unfold byW; rw [IntKind.wrap_u8]; omega
 generalize byW (P.crash []).per 0 = y at *
 have h3 : (UInt8.ofNat y.toNat).toNat = 7 := by rw [← e5]; rfl
 rw [UInt8.toNat_ofNat'] at h3
 omega
theorem aw_run : ∃ F : Dv, (Dv.fresh 1 Z8).run vsA = (F, 0) ∧ F.n = 1 ∧ byW F.per 0 = 7 := by
 obtain ⟨a1, a2⟩ := aw_1
 obtain ⟨b1, b2⟩ := aw_2
 obtain ⟨c1, c2, c3⟩ := aw_3
 have h7 : okE ⟨7, 0, 0, 0, 0, 0, 0, []⟩ = true ∧ (⟨7, 0, 0, 0, 0, 0, 0, []⟩ : Ev).k = 7 := ⟨by decide, rfl⟩
 have e : (Dv.fresh 1 Z8).run vsA = ((A2.step ⟨4, 0, 0, 0, 0, 0, 0, []⟩).step ⟨7, 0, 0, 0, 0, 0, 0, []⟩, 0) := by
  rw [vsA, run_go (.inl a2), a1, run_go (.inl b2), b1, run_go (.inl c3), run_go (.inl (step7_e h7)), run_nil]
 rw [step_7 h7] at e
 generalize A2.step ⟨4, 0, 0, 0, 0, 0, 0, []⟩ = P at *
 exact ⟨P.crash [], e, c1, crash_byte P c1 c2⟩
attribute [local go_sem] eE eT eU deO peO cuO liO thO hiO noO runR runL
theorem vsA_len : vsA.length = 4 := rfl
attribute [local irreducible] vsA txL
set_option maxRecDepth 100000 in
set_option maxHeartbeats 4000000 in
theorem sAwake  : PCalls Tryz.prog 9 [] (.v (.bool true)) := by
 refine pcalls_of (E := E) (fn := Tryz.f9) 43 [.tmp 0] rfl rfl rfl rfl (by decide) rfl ?_
 have kp := sParse vsA vsA_rng vsA_ok (by rw [vsA_len]; decide)
 rw [vsA_tx] at kp
 have kn := dNew6 1 (by decide)
 obtain ⟨F, hr, hn, hb⟩ := aw_run
 have kr := dRun (Dv.fresh 1 Z8) J0 0 (Inv.fresh 1 _ (by decide) (by decide) (by simp [Z8])) vsA (by rw [vsA_len]; decide) (fun x hx => ⟨vsA_rng x hx, by have := okE_t (vsA_ok x hx); unfold okK at this; omega⟩)
 rw [hr] at kr
 repeat' (first
  | (with_reducible first | refine r_seq ?_ | refine r_block ?_ | refine fork_not ?_ | refine fork_and ?_ | refine fork_or ?_ | refine chk_ok (by kernel_rfl) ?_)
  | ((with_reducible first | refine fork_dec ?_ ?_ | refine fork_eq ?_ ?_ | refine fork_ne ?_ ?_ | refine fork_intro ?_ ?_) <;> intro h <;> try (exfalso; first | omega | exact h rfl | (revert h; decide) | (cases h; done)))
  | ((with_reducible show False); omega)
  | ((with_reducible first | refine r_gr0 [17] (by with_unfolding_all exact rfl) ?_ | refine r_gr1 [17] (by with_unfolding_all exact rfl) ?_ | refine r_gr2 [17] (by with_unfolding_all exact rfl) ?_ | refine r_gr3 [17] (by with_unfolding_all exact rfl) ?_ | refine r_gr4 [17] (by with_unfolding_all exact rfl) ?_ | refine r_gr5 [17] (by with_unfolding_all exact rfl) ?_ | refine r_gr6 [17] (by with_unfolding_all exact rfl) ?_ | refine r_gr7 [17] (by with_unfolding_all exact rfl) ?_ | refine r_gr8 [17] (by with_unfolding_all exact rfl) ?_ | refine r_gr9 [17] (by with_unfolding_all exact rfl) ?_ | refine r_gr10 [17] (by with_unfolding_all exact rfl) ?_); simp -dsimp -implicitDefEqProofs (maxSteps := 1000000) (disch := first | omega | (simp only [LN, vsA_len]; omega)) only [go_sem, vsA_len])
  | ((first | (with_reducible first | refine r_exit ?_ | refine r_skip ?_ | refine r_cond ?_ | refine r_region ?_ | refine r_ret ?_ | show VX _ _ _ _ _ _ _ | show vstep _ _ _ _ _ | show vskip _ _ _ | show withV _ _) | ((with_reducible show endA _ _ _ _ _ _ _); simp -implicitDefEqProofs only [endA]) | (with_reducible first | refine pick_viewG default (by first | omega | (simp only [LN, vsA_len]; omega)) (by first | omega | (simp only [LN, vsA_len]; omega)) ?_ | refine pick_own default (by first | omega | (simp only [LN, vsA_len]; omega)) ?_ | refine And.intro (by first | decide | omega | assumption | (simp only [LN, vsA_len]; omega)) ?_) | ((with_reducible apply callK_pure); (exact kp)) | ((with_reducible apply callF_lend); (exact kp); rfl) | ((with_reducible apply callF_go); (exact kp)) | (with_reducible first | apply callK_lent | apply callF_lent | apply hideP_own) | ((with_reducible apply callA_go); (first | exact kn | fail)) | ((with_reducible apply callX_go); (first | exact kr | fail); intro gq) | ((with_reducible show pickE _ _ _); first | refine pickE_intro _ ⟨by omega, by rfl⟩ ?_ | refine pickE_intro _ (by rfl) ?_) | fail); try simp -dsimp -implicitDefEqProofs (maxSteps := 1000000) (disch := first | omega | (simp only [LN, vsA_len]; omega)) only [go_sem, vsA_len])
  | fail)
 all_goals try omega
 obtain ⟨⟨c, J2⟩, hI⟩ := gq
 simp only at hI
 have kd := dPers6 F J2 hI.wf
 have hg := byL_0g F.per (64 * F.n) (by omega)
 cases c
 all_goals
  simp -dsimp -implicitDefEqProofs (maxSteps := 1000000) (disch := first | omega | (simp only [LN]; omega)) only [go_sem]
  repeat' (first
   | (with_reducible first | refine r_seq ?_ | refine r_block ?_ | refine fork_not ?_ | refine fork_and ?_ | refine fork_or ?_ | refine chk_ok (by kernel_rfl) ?_)
   | ((with_reducible first | refine fork_dec ?_ ?_ | refine fork_eq ?_ ?_ | refine fork_ne ?_ ?_ | refine fork_intro ?_ ?_) <;> intro h <;> try (exfalso; first | omega | exact h rfl | (revert h; decide) | (cases h; done)))
   | ((with_reducible show False); omega)
   | ((first | (with_reducible first | refine r_exit ?_ | refine r_skip ?_ | refine r_cond ?_ | refine r_region ?_ | refine r_ret ?_ | show VX _ _ _ _ _ _ _ | show vstep _ _ _ _ _ | show vskip _ _ _ | show withV _ _) | ((with_reducible show endA _ _ _ _ _ _ _); simp -implicitDefEqProofs only [endA]) | (with_reducible first | refine pick_viewG default (by first | omega | (simp only [LN, hb]; omega)) (by first | omega | (simp only [LN, hb]; omega)) ?_ | refine pick_own default (by first | omega | (simp only [LN, hb]; omega)) ?_ | refine And.intro (by first | decide | omega | assumption | (simp only [LN, hb]; omega)) ?_) | (with_reducible first | apply callK_lent | apply callF_lent | apply hideP_own) | ((with_reducible apply callA_go); (first | exact kd | fail)) | ((with_reducible show pickE _ _ _); first | refine pickE_intro _ ⟨by omega, by rfl⟩ ?_ | refine pickE_intro _ (by rfl) ?_) | fail); try simp -dsimp -implicitDefEqProofs (maxSteps := 1000000) (disch := first | omega | (simp only [LN, hb]; omega)) only [go_sem, hb])
   | fail)
  refine pickE_intro _ hg ?_
  simp -dsimp -implicitDefEqProofs (maxSteps := 1000000) (disch := first | omega | (simp only [LN, hb]; omega)) only [go_sem, hb]
  repeat' (first
   | (with_reducible first | refine r_seq ?_ | refine r_block ?_ | refine fork_not ?_ | refine fork_and ?_ | refine fork_or ?_ | refine chk_ok (by kernel_rfl) ?_)
   | ((with_reducible first | refine fork_dec ?_ ?_ | refine fork_eq ?_ ?_ | refine fork_ne ?_ ?_ | refine fork_intro ?_ ?_) <;> intro h <;> try (exfalso; first | omega | exact h rfl | (revert h; decide) | (cases h; done)))
   | ((with_reducible show False); omega)
   | ((first | (with_reducible first | refine r_exit ?_ | refine r_skip ?_ | refine r_cond ?_ | refine r_region ?_ | refine r_ret ?_ | show VX _ _ _ _ _ _ _ | show vstep _ _ _ _ _ | show vskip _ _ _ | show withV _ _) | ((with_reducible show endA _ _ _ _ _ _ _); simp -implicitDefEqProofs only [endA]) | (with_reducible first | refine pick_viewG default (by first | omega | (simp only [LN, hb]; omega)) (by first | omega | (simp only [LN, hb]; omega)) ?_ | refine pick_own default (by first | omega | (simp only [LN, hb]; omega)) ?_ | refine And.intro (by first | decide | omega | assumption | (simp only [LN, hb]; omega)) ?_) | ((with_reducible show pickE _ _ _); first | refine pickE_intro _ ⟨by omega, by rfl⟩ ?_ | refine pickE_intro _ (by rfl) ?_) | fail); try simp -dsimp -implicitDefEqProofs (maxSteps := 1000000) (disch := first | omega | (simp only [LN, hb]; omega)) only [go_sem, hb])
   | fail)
  all_goals first | rfl | omega
end Go.Proofs.YtckhjklcfagkoaaGreatDoor