/- Contracts of functions of this program, and the plain facts that they rest on. No conditions. -/
import Derived.Test.YtckhjklcfagkoaaGreatDoorDvR0Q
import Derived.Test.YtckhjklcfagkoaaGreatDoorDvDQ
import Derived.Test.YtckhjklcfagkoaaGreatDoorDvG1Q
set_option linter.unusedSimpArgs false
set_option linter.unusedVariables false
namespace Go.Proofs.YtckhjklcfagkoaaGreatDoor
open Go Go.Ab
attribute [local irreducible] callK callF loopQ vstep vskip pickE hideP
set_option maxRecDepth 100000
attribute [local go_sem] deO peO cuO liO thO hiO noO
set_option maxRecDepth 100000 in
set_option maxHeartbeats 4000000 in
theorem tFence0 (A : Dv) (J : Nat → List (Int × Int)) (h : WF A) (hn : NoteOk A 0) (hj : JOk A J) : ACallsX Tryz.prog 43 [.loc 4 0] [deO A 1 2 3 4, peO A, cuO A, liO A J 12, thO A 0 0 18, thO A 1 0 18, thO A 2 0 18, thO A 3 0 18, thO A 4 0 18, thO A 5 0 18, thO A 6 0 18, thO A 7 0 18, hiO A J 0, hiO A J 1, hiO A J 2, hiO A J 3, hiO A J 4, hiO A J 5, noO A 0, noO A 1, noO A 2, noO A 3, noO A 4, noO A 5, noO A 6, noO A 7] (fun J2 : { J2 : Nat → List (Int × Int) // JOk (A.fence 0) J2 } => .p (.tup [])) (fun J2 : { J2 : Nat → List (Int × Int) // JOk (A.fence 0) J2 } => [deO (A.fence 0) 1 2 3 4, peO (A.fence 0), cuO (A.fence 0), liO (A.fence 0) J2.1 26, thO (A.fence 0) 0 0 18, thO (A.fence 0) 1 0 18, thO (A.fence 0) 2 0 18, thO (A.fence 0) 3 0 18, thO (A.fence 0) 4 0 18, thO (A.fence 0) 5 0 18, thO (A.fence 0) 6 0 18, thO (A.fence 0) 7 0 18, .dead, .dead, .dead, .dead, .dead, .dead, noO (A.fence 0) 0, noO (A.fence 0) 1, noO (A.fence 0) 2, noO (A.fence 0) 3, noO (A.fence 0) 4, noO (A.fence 0) 5, noO (A.fence 0) 6, noO (A.fence 0) 7, hiO (A.fence 0) J2.1 0, hiO (A.fence 0) J2.1 1, hiO (A.fence 0) J2.1 2, hiO (A.fence 0) J2.1 3, hiO (A.fence 0) J2.1 4, hiO (A.fence 0) J2.1 5]) := by
 refine acallsx_of (E := E) (fn := Tryz.f43) 57 [] rfl rfl rfl rfl (by decide) rfl (fun _ => rfl) ?_
 have hk : 0 < 8 := by decide
 have kc := tCnt A J 0 hk true
 by_cases hc : A.cntB true = true
 ·rw [hc] at kc
  have hB := h.cnt 0 true
  have hnB := hn.cnt 0 true
  have hjB : JOk (A.cnt 0 true) J := by intro r hr; rw [jk_cnt, (cnt_p A 0 true).2.2.2.2.1]; exact hj r hr
  have hf : A.fence 0 = { fencS (A.cnt 0 true) 0 (fun _ => True) with note := upd (A.cnt 0 true).note 0 (fun _ => none) } := if_pos hc
  generalize A.cnt 0 true = B at *
  repeat' ((fail_if_success (with_reducible show awp _ _ (Code.region 1 _ _) _ _)); first
   | (with_reducible first | refine r_seq ?_ | refine r_block ?_ | refine fork_not ?_ | refine fork_and ?_ | refine fork_or ?_ | refine chk_ok (by kernel_rfl) ?_)
   | ((with_reducible first | refine fork_dec ?_ ?_ | refine fork_eq ?_ ?_ | refine fork_ne ?_ ?_ | refine fork_intro ?_ ?_) <;> intro h <;> try (exfalso; first | omega | exact h rfl | (revert h; decide) | (cases h; done)))
   | ((with_reducible show False); omega)
   | ((first | (with_reducible first | refine r_exit ?_ | refine r_skip ?_ | refine r_cond ?_ | refine r_region ?_ | refine r_ret ?_ | show VX _ _ _ _ _ _ _ | show vstep _ _ _ _ _ | show vskip _ _ _ | show withV _ _) | ((with_reducible show endA _ _ _ _ _ _ _); simp -implicitDefEqProofs only [endA]) | (with_reducible first | refine pick_viewG default (by first | omega | (simp only [LN]; omega)) (by first | omega | (simp only [LN]; omega)) ?_ | refine pick_own default (by first | omega | (simp only [LN]; omega)) ?_ | refine And.intro (by first | decide | omega | assumption | (simp only [LN]; omega)) ?_) | (with_reducible first | apply callK_lent | apply callF_lent | apply hideP_own) | ((with_reducible apply callA_go); (first | exact kc | fail)) | ((with_reducible show pickE _ _ _); first | refine pickE_intro _ ⟨by omega, by rfl⟩ ?_ | refine pickE_intro _ (by rfl) ?_) | fail); try simp -dsimp -implicitDefEqProofs (maxSteps := 1000000) (disch := first | omega | (simp only [LN]; omega)) only [go_sem])
   | fail)
  refine r_openM 18 (some .i64) (.i .u64 (B.note 0)) rfl fun es cl hm => ?_
  simp -dsimp -implicitDefEqProofs (maxSteps := 1000000) (disch := first | omega | (simp only [LN]; omega)) only [go_sem]
  repeat' ((fail_if_success (with_reducible show awp _ _ (Code.region 2 _ _) _ _)); first
   | (with_reducible first | refine r_seq ?_ | refine r_block ?_ | refine fork_not ?_ | refine fork_and ?_ | refine fork_or ?_ | refine chk_ok (by kernel_rfl) ?_)
   | ((with_reducible first | refine fork_dec ?_ ?_ | refine fork_eq ?_ ?_ | refine fork_ne ?_ ?_ | refine fork_intro ?_ ?_) <;> intro h <;> try (exfalso; first | omega | exact h rfl | (revert h; decide) | (cases h; done)))
   | ((with_reducible show False); omega)
   | ((first | (with_reducible first | refine r_exit ?_ | refine r_skip ?_ | refine r_cond ?_ | refine r_region ?_ | refine r_ret ?_ | show VX _ _ _ _ _ _ _ | show vstep _ _ _ _ _ | show vskip _ _ _ | show withV _ _) | ((with_reducible show endA _ _ _ _ _ _ _); simp -implicitDefEqProofs only [endA]) | (with_reducible first | refine pick_viewG default (by first | omega | (simp only [LN]; omega)) (by first | omega | (simp only [LN]; omega)) ?_ | refine pick_own default (by first | omega | (simp only [LN]; omega)) ?_ | refine And.intro (by first | decide | omega | assumption | (simp only [LN]; omega)) ?_) | ((with_reducible show pickE _ _ _); first | refine pickE_intro _ ⟨by omega, by rfl⟩ ?_ | refine pickE_intro _ (by rfl) ?_) | fail); try simp -dsimp -implicitDefEqProofs (maxSteps := 1000000) (disch := first | omega | (simp only [LN]; omega)) only [go_sem])
   | fail)
  have hst := (MapKept.stamped_iff es cl).1 hm.st
  refine r_loop (α := Array Nat × Dv × (Nat → List (Int × Int))) (fun x => ⟨57, [(0, some (.loc 4 0)), (23, some (.loc 26 0))], [some (deO x.2.1 1 2 3 4), some (peO x.2.1), some (cuO x.2.1), some (liO x.2.1 x.2.2 27), some (thO x.2.1 0 0 18), some (thO x.2.1 1 0 18), some (thO x.2.1 2 0 18), some (thO x.2.1 3 0 18), some (thO x.2.1 4 0 18), some (thO x.2.1 5 0 18), some (thO x.2.1 6 0 18), some (thO x.2.1 7 0 18), some (Ob.dead), some (Ob.dead), some (Ob.dead), some (Ob.dead), some (Ob.dead), some (Ob.dead), some (Ob.mpx (some .i64) es cl), some (noO x.2.1 1), some (noO x.2.1 2), some (noO x.2.1 3), some (noO x.2.1 4), some (noO x.2.1 5), some (noO x.2.1 6), some (noO x.2.1 7), some (Ob.it (.mref 18) cl x.1 cl), some (hiO x.2.1 x.2.2 0), some (hiO x.2.1 x.2.2 1), some (hiO x.2.1 x.2.2 2), some (hiO x.2.1 x.2.2 3), some (hiO x.2.1 x.2.2 4), some (hiO x.2.1 x.2.2 5)]⟩) (fun x => x.2.1 = fencS B 0 (Saw es x.1) ∧ JOk x.2.1 x.2.2) (fun x => (leftOf es x.1).size) (#[], B, J) ?_ ?_ ?_
  ·refine ⟨(fencS_none hB ?_ ?_).symm, hjB⟩
   ·rintro r _ ⟨e, _, _, hs⟩; simp at hs
   ·rintro r _ ⟨e, _, _, hs⟩; simp at hs
  ·refine wk_auto ?_
   simp -dsimp -implicitDefEqProofs (maxSteps := 1000000) (disch := first | omega | (simp only [LN]; omega)) only [go_sem]
  ·rintro ⟨seen, D, J2⟩ ⟨hD, hJ2⟩
   simp only at hD hJ2
   simp -dsimp -implicitDefEqProofs (maxSteps := 1000000) (disch := first | omega | (simp only [LN]; omega)) only [go_sem]
   repeat' ((fail_if_success (with_reducible show awp _ _ (Code.region 2 _ _) _ _)); first
    | (with_reducible first | refine r_seq ?_ | refine r_block ?_ | refine fork_not ?_ | refine fork_and ?_ | refine fork_or ?_ | refine chk_ok (by kernel_rfl) ?_)
    | ((with_reducible first | refine fork_dec ?_ ?_ | refine fork_eq ?_ ?_ | refine fork_ne ?_ ?_ | refine fork_intro ?_ ?_) <;> intro h <;> try (exfalso; first | omega | exact h rfl | (revert h; decide) | (cases h; done)))
    | ((with_reducible show False); omega)
    | ((first | (with_reducible first | refine r_exit ?_ | refine r_skip ?_ | refine r_cond ?_ | refine r_region ?_ | refine r_ret ?_ | show VX _ _ _ _ _ _ _ | show vstep _ _ _ _ _ | show vskip _ _ _ | show withV _ _) | ((with_reducible show endA _ _ _ _ _ _ _); simp -implicitDefEqProofs only [endA]) | (with_reducible first | refine pick_viewG default (by first | omega | (simp only [LN]; omega)) (by first | omega | (simp only [LN]; omega)) ?_ | refine pick_own default (by first | omega | (simp only [LN]; omega)) ?_ | refine And.intro (by first | decide | omega | assumption | (simp only [LN]; omega)) ?_) | ((with_reducible show pickE _ _ _); first | refine pickE_intro _ ⟨by omega, by rfl⟩ ?_ | refine pickE_intro _ (by rfl) ?_) | fail); try simp -dsimp -implicitDefEqProofs (maxSteps := 1000000) (disch := first | omega | (simp only [LN]; omega)) only [go_sem])
    | fail)
   have hDw : WF D := hD ▸ wf_fencS hB hnB _
   have hDn : D.n = B.n := by rw [hD]; rfl
   have h6 := hB.n6
   refine r_next (it := 23) (t := 24) (k := 26) (m := 18) (since := cl) (last := cl) (cl := cl) (seen := seen) (kk := some .i64) (es := es) rfl rfl rfl (by show 24 < 57; decide) rfl rfl rfl hst.1 (Nat.le_refl _) ?_ ?_ ?_
   ·intro e he
    obtain ⟨r, v, _, e1, _, e2, _⟩ := entry_is hnB hm he
    rw [e1, e2]; exact ⟨rfl, rfl⟩
   ·intro h0
    have hDa : D = fencS B 0 (fun _ => True) := hD.trans (fencS_all (fun r hr => (hB.len r hr).1) h6 hnB hm h0)
    subst hDa
    repeat' ((fail_if_success (with_reducible show awp _ _ (Code.region 7 _ _) _ _)); first
     | (with_reducible first | refine r_seq ?_ | refine r_block ?_ | refine fork_not ?_ | refine fork_and ?_ | refine fork_or ?_ | refine chk_ok (by kernel_rfl) ?_)
     | ((with_reducible first | refine fork_dec ?_ ?_ | refine fork_eq ?_ ?_ | refine fork_ne ?_ ?_ | refine fork_intro ?_ ?_) <;> intro h <;> try (exfalso; first | omega | exact h rfl | (revert h; decide) | (cases h; done)))
     | ((with_reducible show False); omega)
     | ((first | (with_reducible first | refine r_exit ?_ | refine r_skip ?_ | refine r_cond ?_ | refine r_region ?_ | refine r_ret ?_ | show VX _ _ _ _ _ _ _ | show vstep _ _ _ _ _ | show vskip _ _ _ | show withV _ _) | ((with_reducible show endA _ _ _ _ _ _ _); simp -implicitDefEqProofs only [endA]) | (with_reducible first | refine pick_viewG default (by first | omega | (simp only [LN]; omega)) (by first | omega | (simp only [LN]; omega)) ?_ | refine pick_own default (by first | omega | (simp only [LN]; omega)) ?_ | refine And.intro (by first | decide | omega | assumption | (simp only [LN]; omega)) ?_) | ((with_reducible show pickE _ _ _); first | refine pickE_intro _ ⟨by omega, by rfl⟩ ?_ | refine pickE_intro _ (by rfl) ?_) | fail); try simp -dsimp -implicitDefEqProofs (maxSteps := 1000000) (disch := first | omega | (simp only [LN]; omega)) only [go_sem])
     | fail)
    refine r_shutM 18 (some .i64) es cl (.i .u64 (B.note 0)) hm rfl ?_
    simp -dsimp -implicitDefEqProofs (maxSteps := 1000000) (disch := first | omega | (simp only [LN]; omega)) only [go_sem]
    repeat' (first
     | (with_reducible first | refine r_seq ?_ | refine r_block ?_ | refine fork_not ?_ | refine fork_and ?_ | refine fork_or ?_ | refine chk_ok (by kernel_rfl) ?_)
     | ((with_reducible first | refine fork_dec ?_ ?_ | refine fork_eq ?_ ?_ | refine fork_ne ?_ ?_ | refine fork_intro ?_ ?_) <;> intro h <;> try (exfalso; first | omega | exact h rfl | (revert h; decide) | (cases h; done)))
     | ((with_reducible show False); omega)
     | ((first | (with_reducible first | refine r_exit ?_ | refine r_skip ?_ | refine r_cond ?_ | refine r_region ?_ | refine r_ret ?_ | show VX _ _ _ _ _ _ _ | show vstep _ _ _ _ _ | show vskip _ _ _ | show withV _ _) | ((with_reducible show endA _ _ _ _ _ _ _); simp -implicitDefEqProofs only [endA]) | (with_reducible first | refine pick_viewG default (by first | omega | (simp only [LN]; omega)) (by first | omega | (simp only [LN]; omega)) ?_ | refine pick_own default (by first | omega | (simp only [LN]; omega)) ?_ | refine And.intro (by first | decide | omega | assumption | (simp only [LN]; omega)) ?_) | ((with_reducible show pickE _ _ _); first | refine pickE_intro _ ⟨by omega, by rfl⟩ ?_ | refine pickE_intro _ (by rfl) ?_) | fail); try simp -dsimp -implicitDefEqProofs (maxSteps := 1000000) (disch := first | omega | (simp only [LN]; omega)) only [go_sem])
     | fail)
    (refine endX_i (⟨J2, by rw [hf]; exact hJ2⟩) ?_; simp -implicitDefEqProofs only [endA]; (simp -dsimp -implicitDefEqProofs (maxSteps := 1000000) (disch := first | omega | (simp only [LN, hf]; omega)) only [go_sem, hf]; try trivial))
    simp [jk, upd, fencS]
   ·intro e he
    obtain ⟨hmem, hns⟩ := left_mem he
    obtain ⟨r, v, hr, hke, hno, hva, hv0, hv1⟩ := entry_is hnB hm hmem
    have hnew := saw_new hm.st he hke
    have hDd : D.done r = B.done r := by rw [hD]; exact if_neg hnew
    have hDh : D.hist r = B.hist r := by rw [hD]; exact if_neg hnew
    have hlr := hB.len r (by omega)
    have hkf : kF B 0 r = (v - B.done r).toNat := by unfold kF; rw [hno]
    repeat' ((fail_if_success (with_reducible show awp _ _ (Code.region 3 _ _) _ _)); first
     | (with_reducible first | refine r_seq ?_ | refine r_block ?_ | refine fork_not ?_ | refine fork_and ?_ | refine fork_or ?_ | refine chk_ok (by kernel_rfl) ?_)
     | ((with_reducible first | refine fork_dec ?_ ?_ | refine fork_eq ?_ ?_ | refine fork_ne ?_ ?_ | refine fork_intro ?_ ?_) <;> intro h <;> try (exfalso; first | omega | exact h rfl | (revert h; decide) | (cases h; done)))
     | ((with_reducible show False); omega)
     | ((first | (with_reducible first | refine r_exit ?_ | refine r_skip ?_ | refine r_cond ?_ | refine r_region ?_ | refine r_ret ?_ | show VX _ _ _ _ _ _ _ | show vstep _ _ _ _ _ | show vskip _ _ _ | show withV _ _) | ((with_reducible show endA _ _ _ _ _ _ _); simp -implicitDefEqProofs only [endA]) | (with_reducible first | refine pick_viewG default (by first | omega | (simp only [LN, hke, hva]; omega)) (by first | omega | (simp only [LN, hke, hva]; omega)) ?_ | refine pick_own default (by first | omega | (simp only [LN, hke, hva]; omega)) ?_ | refine And.intro (by first | decide | omega | assumption | (simp only [LN, hke, hva]; omega)) ?_) | ((with_reducible show pickE _ _ _); first | refine pickE_intro _ ⟨by omega, by rfl⟩ ?_ | refine pickE_intro _ (by rfl) ?_) | fail); try simp -dsimp -implicitDefEqProofs (maxSteps := 1000000) (disch := first | omega | (simp only [LN, hke, hva]; omega)) only [go_sem, hke, hva])
     | fail)
    repeat' (first
     | (with_reducible first | refine r_seq ?_ | refine r_block ?_ | refine fork_not ?_ | refine fork_and ?_ | refine fork_or ?_ | refine chk_ok (by kernel_rfl) ?_)
     | ((with_reducible first | refine fork_dec ?_ ?_ | refine fork_eq ?_ ?_ | refine fork_ne ?_ ?_ | refine fork_intro ?_ ?_) <;> intro h <;> try (exfalso; first | omega | exact h rfl | (revert h; decide) | (cases h; done)))
     | ((with_reducible show False); omega)
     | ((first | (with_reducible first | refine r_exit ?_ | refine r_skip ?_ | refine r_cond ?_ | refine r_region ?_ | refine r_ret ?_ | show VX _ _ _ _ _ _ _ | show vstep _ _ _ _ _ | show vskip _ _ _ | show withV _ _) | ((with_reducible show endA _ _ _ _ _ _ _); simp -implicitDefEqProofs only [endA]) | (with_reducible first | refine pick_viewG default (by first | omega | (simp only [LN, hke, hva]; omega)) (by first | omega | (simp only [LN, hke, hva]; omega)) ?_ | refine pick_own default (by first | omega | (simp only [LN, hke, hva]; omega)) ?_ | refine And.intro (by first | decide | omega | assumption | (simp only [LN, hke, hva]; omega)) ?_) | ((with_reducible show pickE _ _ _); first | refine pickE_intro _ ⟨by omega, by rfl⟩ ?_ | refine pickE_intro _ (by rfl) ?_) | fail); try simp -dsimp -implicitDefEqProofs (maxSteps := 1000000) (disch := first | omega | (simp only [LN, hke, hva]; omega)) only [go_sem, hke, hva])
     | fail)
    refine pickE_intro e (by simp [hmem, hke, hva]; exact hst.2.1) ?_
    simp -dsimp -implicitDefEqProofs (maxSteps := 1000000) (disch := first | omega | (simp only [LN, hke, hva]; omega)) only [go_sem, hke, hva]
    repeat' ((fail_if_success (with_reducible show awp _ _ (Code.region 6 _ _) _ _)); first
     | (with_reducible first | refine r_seq ?_ | refine r_block ?_ | refine fork_not ?_ | refine fork_and ?_ | refine fork_or ?_ | refine chk_ok (by kernel_rfl) ?_)
     | ((with_reducible first | refine fork_dec ?_ ?_ | refine fork_eq ?_ ?_ | refine fork_ne ?_ ?_ | refine fork_intro ?_ ?_) <;> intro h <;> try (exfalso; first | omega | exact h rfl | (revert h; decide) | (cases h; done)))
     | ((with_reducible show False); omega)
     | ((first | (with_reducible first | refine r_exit ?_ | refine r_skip ?_ | refine r_cond ?_ | refine r_region ?_ | refine r_ret ?_ | show VX _ _ _ _ _ _ _ | show vstep _ _ _ _ _ | show vskip _ _ _ | show withV _ _) | ((with_reducible show endA _ _ _ _ _ _ _); simp -implicitDefEqProofs only [endA]) | (with_reducible first | refine pick_viewG default (by first | omega | (simp only [LN, hke, hva, hDd]; omega)) (by first | omega | (simp only [LN, hke, hva, hDd]; omega)) ?_ | refine pick_own default (by first | omega | (simp only [LN, hke, hva, hDd]; omega)) ?_ | refine And.intro (by first | decide | omega | assumption | (simp only [LN, hke, hva, hDd]; omega)) ?_) | ((with_reducible show pickE _ _ _); first | refine pickE_intro _ ⟨by omega, by rfl⟩ ?_ | refine pickE_intro _ (by rfl) ?_) | fail); try simp -dsimp -implicitDefEqProofs (maxSteps := 1000000) (disch := first | omega | (simp only [LN, hke, hva, hDd]; omega)) only [go_sem, hke, hva, hDd])
     | fail)
    ·have hgt : B.done r < v := by omega
     have hkle : kF B 0 r ≤ (D.hist r).length := by rw [hDh, hkf]; omega
     have e1 : IntKind.u64.wrap (v - B.done r) = ((kF B 0 r : Nat) : Int) := by rw [hkf, IntKind.wrap_u64]; omega
     have e2 : IntKind.i64.wrap ((kF B 0 r : Nat) : Int) = ((kF B 0 r : Nat) : Int) := by rw [hkf, IntKind.wrap_i64]; omega
     have kp := dPersist0 es cl D J2 hDw r (kF B 0 r) (by omega) hkle (by have := hJ2 r (by omega); rw [hDd] at this; omega)
     repeat' (first
      | (with_reducible first | refine r_seq ?_ | refine r_block ?_ | refine fork_not ?_ | refine fork_and ?_ | refine fork_or ?_ | refine chk_ok (by kernel_rfl) ?_)
      | ((with_reducible first | refine fork_dec ?_ ?_ | refine fork_eq ?_ ?_ | refine fork_ne ?_ ?_ | refine fork_intro ?_ ?_) <;> intro h <;> try (exfalso; first | omega | exact h rfl | (revert h; decide) | (cases h; done)))
      | ((with_reducible show False); omega)
      | ((first | (with_reducible first | refine r_exit ?_ | refine r_skip ?_ | refine r_cond ?_ | refine r_region ?_ | refine r_ret ?_ | show VX _ _ _ _ _ _ _ | show vstep _ _ _ _ _ | show vskip _ _ _ | show withV _ _) | ((with_reducible show endA _ _ _ _ _ _ _); simp -implicitDefEqProofs only [endA]) | (with_reducible first | refine pick_viewG default (by first | omega | (simp only [LN, hke, hva, e1, e2]; omega)) (by first | omega | (simp only [LN, hke, hva, e1, e2]; omega)) ?_ | refine pick_own default (by first | omega | (simp only [LN, hke, hva, e1, e2]; omega)) ?_ | refine And.intro (by first | decide | omega | assumption | (simp only [LN, hke, hva, e1, e2]; omega)) ?_) | (with_reducible first | apply callK_lent | apply callF_lent | apply hideP_own) | ((with_reducible apply callA_go); (first | exact kp | fail)) | ((with_reducible show pickE _ _ _); first | refine pickE_intro _ ⟨by omega, by rfl⟩ ?_ | refine pickE_intro _ (by rfl) ?_) | fail); try simp -dsimp -implicitDefEqProofs (maxSteps := 1000000) (disch := first | omega | (simp only [LN, hke, hva, e1, e2]; omega)) only [go_sem, hke, hva, e1, e2])
      | fail)
     refine loopQ_next (seen.push e.born, D.persist r (kF B 0 r), jper D J2 r (kF B 0 r)) ⟨?_, ?_⟩ (left_lt he) ?_
     ·show D.persist r (kF B 0 r) = _
      rw [hD]; exact fencS_step hB hnB hr hnew (saw_push hm.st he hke)
     ·exact hJ2.persist (fun i hi => (hDw.len i hi).1) r _ hkle
     ·simp -dsimp -implicitDefEqProofs (maxSteps := 1000000) (disch := first | omega | (simp only [LN]; omega)) only [go_sem]
    ·have hkz : kF B 0 r = 0 := by rw [hkf]; omega
     have hst2 := fencS_step hB hnB hr hnew (saw_push hm.st he hke)
     rw [hkz, persist_0] at hst2
     refine loopQ_next (seen.push e.born, D, J2) ⟨hD.trans hst2, hJ2⟩ (left_lt he) ?_
     simp -dsimp -implicitDefEqProofs (maxSteps := 1000000) (disch := first | omega | (simp only [LN]; omega)) only [go_sem]
 ·simp only [Bool.not_eq_true] at hc
  rw [hc] at kc
  have hf : A.fence 0 = A.cnt 0 true := by unfold Dv.fence; rw [hc]; rfl
  have hjB : JOk (A.cnt 0 true) J := by intro r hr; rw [jk_cnt, (cnt_p A 0 true).2.2.2.2.1]; exact hj r hr
  repeat' (first
   | (with_reducible first | refine r_seq ?_ | refine r_block ?_ | refine fork_not ?_ | refine fork_and ?_ | refine fork_or ?_ | refine chk_ok (by kernel_rfl) ?_)
   | ((with_reducible first | refine fork_dec ?_ ?_ | refine fork_eq ?_ ?_ | refine fork_ne ?_ ?_ | refine fork_intro ?_ ?_) <;> intro h <;> try (exfalso; first | omega | exact h rfl | (revert h; decide) | (cases h; done)))
   | ((with_reducible show False); omega)
   | ((first | (with_reducible first | refine r_exit ?_ | refine r_skip ?_ | refine r_cond ?_ | refine r_region ?_ | refine r_ret ?_ | show VX _ _ _ _ _ _ _ | show vstep _ _ _ _ _ | show vskip _ _ _ | show withV _ _) | ((with_reducible show endA _ _ _ _ _ _ _); simp -implicitDefEqProofs only [endA]) | (with_reducible first | refine pick_viewG default (by first | omega | (simp only [LN]; omega)) (by first | omega | (simp only [LN]; omega)) ?_ | refine pick_own default (by first | omega | (simp only [LN]; omega)) ?_ | refine And.intro (by first | decide | omega | assumption | (simp only [LN]; omega)) ?_) | (with_reducible first | apply callK_lent | apply callF_lent | apply hideP_own) | ((with_reducible apply callA_go); (first | exact kc | fail)) | ((with_reducible show pickE _ _ _); first | refine pickE_intro _ ⟨by omega, by rfl⟩ ?_ | refine pickE_intro _ (by rfl) ?_) | fail); try simp -dsimp -implicitDefEqProofs (maxSteps := 1000000) (disch := first | omega | (simp only [LN]; omega)) only [go_sem])
   | fail)
  (refine endX_i (⟨J, by rw [hf]; exact hjB⟩) ?_; simp -implicitDefEqProofs only [endA]; (simp -dsimp -implicitDefEqProofs (maxSteps := 1000000) (disch := first | omega | (simp only [LN, hf]; omega)) only [go_sem, hf]; try trivial))
set_option maxRecDepth 100000 in
set_option maxHeartbeats 4000000 in
theorem tFence1 (A : Dv) (J : Nat → List (Int × Int)) (h : WF A) (hn : NoteOk A 1) (hj : JOk A J) : ACallsX Tryz.prog 43 [.loc 5 0] [deO A 1 2 3 4, peO A, cuO A, liO A J 12, thO A 0 0 18, thO A 1 0 18, thO A 2 0 18, thO A 3 0 18, thO A 4 0 18, thO A 5 0 18, thO A 6 0 18, thO A 7 0 18, hiO A J 0, hiO A J 1, hiO A J 2, hiO A J 3, hiO A J 4, hiO A J 5, noO A 0, noO A 1, noO A 2, noO A 3, noO A 4, noO A 5, noO A 6, noO A 7] (fun J2 : { J2 : Nat → List (Int × Int) // JOk (A.fence 1) J2 } => .p (.tup [])) (fun J2 : { J2 : Nat → List (Int × Int) // JOk (A.fence 1) J2 } => [deO (A.fence 1) 1 2 3 4, peO (A.fence 1), cuO (A.fence 1), liO (A.fence 1) J2.1 26, thO (A.fence 1) 0 0 18, thO (A.fence 1) 1 0 18, thO (A.fence 1) 2 0 18, thO (A.fence 1) 3 0 18, thO (A.fence 1) 4 0 18, thO (A.fence 1) 5 0 18, thO (A.fence 1) 6 0 18, thO (A.fence 1) 7 0 18, .dead, .dead, .dead, .dead, .dead, .dead, noO (A.fence 1) 0, noO (A.fence 1) 1, noO (A.fence 1) 2, noO (A.fence 1) 3, noO (A.fence 1) 4, noO (A.fence 1) 5, noO (A.fence 1) 6, noO (A.fence 1) 7, hiO (A.fence 1) J2.1 0, hiO (A.fence 1) J2.1 1, hiO (A.fence 1) J2.1 2, hiO (A.fence 1) J2.1 3, hiO (A.fence 1) J2.1 4, hiO (A.fence 1) J2.1 5]) := by
 refine acallsx_of (E := E) (fn := Tryz.f43) 57 [] rfl rfl rfl rfl (by decide) rfl (fun _ => rfl) ?_
 have hk : 1 < 8 := by decide
 have kc := tCnt A J 1 hk true
 by_cases hc : A.cntB true = true
 ·rw [hc] at kc
  have hB := h.cnt 1 true
  have hnB := hn.cnt 1 true
  have hjB : JOk (A.cnt 1 true) J := by intro r hr; rw [jk_cnt, (cnt_p A 1 true).2.2.2.2.1]; exact hj r hr
  have hf : A.fence 1 = { fencS (A.cnt 1 true) 1 (fun _ => True) with note := upd (A.cnt 1 true).note 1 (fun _ => none) } := if_pos hc
  generalize A.cnt 1 true = B at *
  repeat' ((fail_if_success (with_reducible show awp _ _ (Code.region 1 _ _) _ _)); first
   | (with_reducible first | refine r_seq ?_ | refine r_block ?_ | refine fork_not ?_ | refine fork_and ?_ | refine fork_or ?_ | refine chk_ok (by kernel_rfl) ?_)
   | ((with_reducible first | refine fork_dec ?_ ?_ | refine fork_eq ?_ ?_ | refine fork_ne ?_ ?_ | refine fork_intro ?_ ?_) <;> intro h <;> try (exfalso; first | omega | exact h rfl | (revert h; decide) | (cases h; done)))
   | ((with_reducible show False); omega)
   | ((first | (with_reducible first | refine r_exit ?_ | refine r_skip ?_ | refine r_cond ?_ | refine r_region ?_ | refine r_ret ?_ | show VX _ _ _ _ _ _ _ | show vstep _ _ _ _ _ | show vskip _ _ _ | show withV _ _) | ((with_reducible show endA _ _ _ _ _ _ _); simp -implicitDefEqProofs only [endA]) | (with_reducible first | refine pick_viewG default (by first | omega | (simp only [LN]; omega)) (by first | omega | (simp only [LN]; omega)) ?_ | refine pick_own default (by first | omega | (simp only [LN]; omega)) ?_ | refine And.intro (by first | decide | omega | assumption | (simp only [LN]; omega)) ?_) | (with_reducible first | apply callK_lent | apply callF_lent | apply hideP_own) | ((with_reducible apply callA_go); (first | exact kc | fail)) | ((with_reducible show pickE _ _ _); first | refine pickE_intro _ ⟨by omega, by rfl⟩ ?_ | refine pickE_intro _ (by rfl) ?_) | fail); try simp -dsimp -implicitDefEqProofs (maxSteps := 1000000) (disch := first | omega | (simp only [LN]; omega)) only [go_sem])
   | fail)
  refine r_openM 19 (some .i64) (.i .u64 (B.note 1)) rfl fun es cl hm => ?_
  simp -dsimp -implicitDefEqProofs (maxSteps := 1000000) (disch := first | omega | (simp only [LN]; omega)) only [go_sem]
  repeat' ((fail_if_success (with_reducible show awp _ _ (Code.region 2 _ _) _ _)); first
   | (with_reducible first | refine r_seq ?_ | refine r_block ?_ | refine fork_not ?_ | refine fork_and ?_ | refine fork_or ?_ | refine chk_ok (by kernel_rfl) ?_)
   | ((with_reducible first | refine fork_dec ?_ ?_ | refine fork_eq ?_ ?_ | refine fork_ne ?_ ?_ | refine fork_intro ?_ ?_) <;> intro h <;> try (exfalso; first | omega | exact h rfl | (revert h; decide) | (cases h; done)))
   | ((with_reducible show False); omega)
   | ((first | (with_reducible first | refine r_exit ?_ | refine r_skip ?_ | refine r_cond ?_ | refine r_region ?_ | refine r_ret ?_ | show VX _ _ _ _ _ _ _ | show vstep _ _ _ _ _ | show vskip _ _ _ | show withV _ _) | ((with_reducible show endA _ _ _ _ _ _ _); simp -implicitDefEqProofs only [endA]) | (with_reducible first | refine pick_viewG default (by first | omega | (simp only [LN]; omega)) (by first | omega | (simp only [LN]; omega)) ?_ | refine pick_own default (by first | omega | (simp only [LN]; omega)) ?_ | refine And.intro (by first | decide | omega | assumption | (simp only [LN]; omega)) ?_) | ((with_reducible show pickE _ _ _); first | refine pickE_intro _ ⟨by omega, by rfl⟩ ?_ | refine pickE_intro _ (by rfl) ?_) | fail); try simp -dsimp -implicitDefEqProofs (maxSteps := 1000000) (disch := first | omega | (simp only [LN]; omega)) only [go_sem])
   | fail)
  have hst := (MapKept.stamped_iff es cl).1 hm.st
  refine r_loop (α := Array Nat × Dv × (Nat → List (Int × Int))) (fun x => ⟨57, [(0, some (.loc 5 0)), (23, some (.loc 26 0))], [some (deO x.2.1 1 2 3 4), some (peO x.2.1), some (cuO x.2.1), some (liO x.2.1 x.2.2 27), some (thO x.2.1 0 0 18), some (thO x.2.1 1 0 18), some (thO x.2.1 2 0 18), some (thO x.2.1 3 0 18), some (thO x.2.1 4 0 18), some (thO x.2.1 5 0 18), some (thO x.2.1 6 0 18), some (thO x.2.1 7 0 18), some (Ob.dead), some (Ob.dead), some (Ob.dead), some (Ob.dead), some (Ob.dead), some (Ob.dead), some (noO x.2.1 0), some (Ob.mpx (some .i64) es cl), some (noO x.2.1 2), some (noO x.2.1 3), some (noO x.2.1 4), some (noO x.2.1 5), some (noO x.2.1 6), some (noO x.2.1 7), some (Ob.it (.mref 19) cl x.1 cl), some (hiO x.2.1 x.2.2 0), some (hiO x.2.1 x.2.2 1), some (hiO x.2.1 x.2.2 2), some (hiO x.2.1 x.2.2 3), some (hiO x.2.1 x.2.2 4), some (hiO x.2.1 x.2.2 5)]⟩) (fun x => x.2.1 = fencS B 1 (Saw es x.1) ∧ JOk x.2.1 x.2.2) (fun x => (leftOf es x.1).size) (#[], B, J) ?_ ?_ ?_
  ·refine ⟨(fencS_none hB ?_ ?_).symm, hjB⟩
   ·rintro r _ ⟨e, _, _, hs⟩; simp at hs
   ·rintro r _ ⟨e, _, _, hs⟩; simp at hs
  ·refine wk_auto ?_
   simp -dsimp -implicitDefEqProofs (maxSteps := 1000000) (disch := first | omega | (simp only [LN]; omega)) only [go_sem]
  ·rintro ⟨seen, D, J2⟩ ⟨hD, hJ2⟩
   simp only at hD hJ2
   simp -dsimp -implicitDefEqProofs (maxSteps := 1000000) (disch := first | omega | (simp only [LN]; omega)) only [go_sem]
   repeat' ((fail_if_success (with_reducible show awp _ _ (Code.region 2 _ _) _ _)); first
    | (with_reducible first | refine r_seq ?_ | refine r_block ?_ | refine fork_not ?_ | refine fork_and ?_ | refine fork_or ?_ | refine chk_ok (by kernel_rfl) ?_)
    | ((with_reducible first | refine fork_dec ?_ ?_ | refine fork_eq ?_ ?_ | refine fork_ne ?_ ?_ | refine fork_intro ?_ ?_) <;> intro h <;> try (exfalso; first | omega | exact h rfl | (revert h; decide) | (cases h; done)))
    | ((with_reducible show False); omega)
    | ((first | (with_reducible first | refine r_exit ?_ | refine r_skip ?_ | refine r_cond ?_ | refine r_region ?_ | refine r_ret ?_ | show VX _ _ _ _ _ _ _ | show vstep _ _ _ _ _ | show vskip _ _ _ | show withV _ _) | ((with_reducible show endA _ _ _ _ _ _ _); simp -implicitDefEqProofs only [endA]) | (with_reducible first | refine pick_viewG default (by first | omega | (simp only [LN]; omega)) (by first | omega | (simp only [LN]; omega)) ?_ | refine pick_own default (by first | omega | (simp only [LN]; omega)) ?_ | refine And.intro (by first | decide | omega | assumption | (simp only [LN]; omega)) ?_) | ((with_reducible show pickE _ _ _); first | refine pickE_intro _ ⟨by omega, by rfl⟩ ?_ | refine pickE_intro _ (by rfl) ?_) | fail); try simp -dsimp -implicitDefEqProofs (maxSteps := 1000000) (disch := first | omega | (simp only [LN]; omega)) only [go_sem])
    | fail)
   have hDw : WF D := hD ▸ wf_fencS hB hnB _
   have hDn : D.n = B.n := by rw [hD]; rfl
   have h6 := hB.n6
   refine r_next (it := 23) (t := 24) (k := 26) (m := 19) (since := cl) (last := cl) (cl := cl) (seen := seen) (kk := some .i64) (es := es) rfl rfl rfl (by show 24 < 57; decide) rfl rfl rfl hst.1 (Nat.le_refl _) ?_ ?_ ?_
   ·intro e he
    obtain ⟨r, v, _, e1, _, e2, _⟩ := entry_is hnB hm he
    rw [e1, e2]; exact ⟨rfl, rfl⟩
   ·intro h0
    have hDa : D = fencS B 1 (fun _ => True) := hD.trans (fencS_all (fun r hr => (hB.len r hr).1) h6 hnB hm h0)
    subst hDa
    repeat' ((fail_if_success (with_reducible show awp _ _ (Code.region 7 _ _) _ _)); first
     | (with_reducible first | refine r_seq ?_ | refine r_block ?_ | refine fork_not ?_ | refine fork_and ?_ | refine fork_or ?_ | refine chk_ok (by kernel_rfl) ?_)
     | ((with_reducible first | refine fork_dec ?_ ?_ | refine fork_eq ?_ ?_ | refine fork_ne ?_ ?_ | refine fork_intro ?_ ?_) <;> intro h <;> try (exfalso; first | omega | exact h rfl | (revert h; decide) | (cases h; done)))
     | ((with_reducible show False); omega)
     | ((first | (with_reducible first | refine r_exit ?_ | refine r_skip ?_ | refine r_cond ?_ | refine r_region ?_ | refine r_ret ?_ | show VX _ _ _ _ _ _ _ | show vstep _ _ _ _ _ | show vskip _ _ _ | show withV _ _) | ((with_reducible show endA _ _ _ _ _ _ _); simp -implicitDefEqProofs only [endA]) | (with_reducible first | refine pick_viewG default (by first | omega | (simp only [LN]; omega)) (by first | omega | (simp only [LN]; omega)) ?_ | refine pick_own default (by first | omega | (simp only [LN]; omega)) ?_ | refine And.intro (by first | decide | omega | assumption | (simp only [LN]; omega)) ?_) | ((with_reducible show pickE _ _ _); first | refine pickE_intro _ ⟨by omega, by rfl⟩ ?_ | refine pickE_intro _ (by rfl) ?_) | fail); try simp -dsimp -implicitDefEqProofs (maxSteps := 1000000) (disch := first | omega | (simp only [LN]; omega)) only [go_sem])
     | fail)
    refine r_shutM 19 (some .i64) es cl (.i .u64 (B.note 1)) hm rfl ?_
    simp -dsimp -implicitDefEqProofs (maxSteps := 1000000) (disch := first | omega | (simp only [LN]; omega)) only [go_sem]
    repeat' (first
     | (with_reducible first | refine r_seq ?_ | refine r_block ?_ | refine fork_not ?_ | refine fork_and ?_ | refine fork_or ?_ | refine chk_ok (by kernel_rfl) ?_)
     | ((with_reducible first | refine fork_dec ?_ ?_ | refine fork_eq ?_ ?_ | refine fork_ne ?_ ?_ | refine fork_intro ?_ ?_) <;> intro h <;> try (exfalso; first | omega | exact h rfl | (revert h; decide) | (cases h; done)))
     | ((with_reducible show False); omega)
     | ((first | (with_reducible first | refine r_exit ?_ | refine r_skip ?_ | refine r_cond ?_ | refine r_region ?_ | refine r_ret ?_ | show VX _ _ _ _ _ _ _ | show vstep _ _ _ _ _ | show vskip _ _ _ | show withV _ _) | ((with_reducible show endA _ _ _ _ _ _ _); simp -implicitDefEqProofs only [endA]) | (with_reducible first | refine pick_viewG default (by first | omega | (simp only [LN]; omega)) (by first | omega | (simp only [LN]; omega)) ?_ | refine pick_own default (by first | omega | (simp only [LN]; omega)) ?_ | refine And.intro (by first | decide | omega | assumption | (simp only [LN]; omega)) ?_) | ((with_reducible show pickE _ _ _); first | refine pickE_intro _ ⟨by omega, by rfl⟩ ?_ | refine pickE_intro _ (by rfl) ?_) | fail); try simp -dsimp -implicitDefEqProofs (maxSteps := 1000000) (disch := first | omega | (simp only [LN]; omega)) only [go_sem])
     | fail)
    (refine endX_i (⟨J2, by rw [hf]; exact hJ2⟩) ?_; simp -implicitDefEqProofs only [endA]; (simp -dsimp -implicitDefEqProofs (maxSteps := 1000000) (disch := first | omega | (simp only [LN, hf]; omega)) only [go_sem, hf]; try trivial))
    simp [jk, upd, fencS]
   ·intro e he
    obtain ⟨hmem, hns⟩ := left_mem he
    obtain ⟨r, v, hr, hke, hno, hva, hv0, hv1⟩ := entry_is hnB hm hmem
    have hnew := saw_new hm.st he hke
    have hDd : D.done r = B.done r := by rw [hD]; exact if_neg hnew
    have hDh : D.hist r = B.hist r := by rw [hD]; exact if_neg hnew
    have hlr := hB.len r (by omega)
    have hkf : kF B 1 r = (v - B.done r).toNat := by unfold kF; rw [hno]
    repeat' ((fail_if_success (with_reducible show awp _ _ (Code.region 3 _ _) _ _)); first
     | (with_reducible first | refine r_seq ?_ | refine r_block ?_ | refine fork_not ?_ | refine fork_and ?_ | refine fork_or ?_ | refine chk_ok (by kernel_rfl) ?_)
     | ((with_reducible first | refine fork_dec ?_ ?_ | refine fork_eq ?_ ?_ | refine fork_ne ?_ ?_ | refine fork_intro ?_ ?_) <;> intro h <;> try (exfalso; first | omega | exact h rfl | (revert h; decide) | (cases h; done)))
     | ((with_reducible show False); omega)
     | ((first | (with_reducible first | refine r_exit ?_ | refine r_skip ?_ | refine r_cond ?_ | refine r_region ?_ | refine r_ret ?_ | show VX _ _ _ _ _ _ _ | show vstep _ _ _ _ _ | show vskip _ _ _ | show withV _ _) | ((with_reducible show endA _ _ _ _ _ _ _); simp -implicitDefEqProofs only [endA]) | (with_reducible first | refine pick_viewG default (by first | omega | (simp only [LN, hke, hva]; omega)) (by first | omega | (simp only [LN, hke, hva]; omega)) ?_ | refine pick_own default (by first | omega | (simp only [LN, hke, hva]; omega)) ?_ | refine And.intro (by first | decide | omega | assumption | (simp only [LN, hke, hva]; omega)) ?_) | ((with_reducible show pickE _ _ _); first | refine pickE_intro _ ⟨by omega, by rfl⟩ ?_ | refine pickE_intro _ (by rfl) ?_) | fail); try simp -dsimp -implicitDefEqProofs (maxSteps := 1000000) (disch := first | omega | (simp only [LN, hke, hva]; omega)) only [go_sem, hke, hva])
     | fail)
    repeat' (first
     | (with_reducible first | refine r_seq ?_ | refine r_block ?_ | refine fork_not ?_ | refine fork_and ?_ | refine fork_or ?_ | refine chk_ok (by kernel_rfl) ?_)
     | ((with_reducible first | refine fork_dec ?_ ?_ | refine fork_eq ?_ ?_ | refine fork_ne ?_ ?_ | refine fork_intro ?_ ?_) <;> intro h <;> try (exfalso; first | omega | exact h rfl | (revert h; decide) | (cases h; done)))
     | ((with_reducible show False); omega)
     | ((first | (with_reducible first | refine r_exit ?_ | refine r_skip ?_ | refine r_cond ?_ | refine r_region ?_ | refine r_ret ?_ | show VX _ _ _ _ _ _ _ | show vstep _ _ _ _ _ | show vskip _ _ _ | show withV _ _) | ((with_reducible show endA _ _ _ _ _ _ _); simp -implicitDefEqProofs only [endA]) | (with_reducible first | refine pick_viewG default (by first | omega | (simp only [LN, hke, hva]; omega)) (by first | omega | (simp only [LN, hke, hva]; omega)) ?_ | refine pick_own default (by first | omega | (simp only [LN, hke, hva]; omega)) ?_ | refine And.intro (by first | decide | omega | assumption | (simp only [LN, hke, hva]; omega)) ?_) | ((with_reducible show pickE _ _ _); first | refine pickE_intro _ ⟨by omega, by rfl⟩ ?_ | refine pickE_intro _ (by rfl) ?_) | fail); try simp -dsimp -implicitDefEqProofs (maxSteps := 1000000) (disch := first | omega | (simp only [LN, hke, hva]; omega)) only [go_sem, hke, hva])
     | fail)
    refine pickE_intro e (by simp [hmem, hke, hva]; exact hst.2.1) ?_
    simp -dsimp -implicitDefEqProofs (maxSteps := 1000000) (disch := first | omega | (simp only [LN, hke, hva]; omega)) only [go_sem, hke, hva]
    repeat' ((fail_if_success (with_reducible show awp _ _ (Code.region 6 _ _) _ _)); first
     | (with_reducible first | refine r_seq ?_ | refine r_block ?_ | refine fork_not ?_ | refine fork_and ?_ | refine fork_or ?_ | refine chk_ok (by kernel_rfl) ?_)
     | ((with_reducible first | refine fork_dec ?_ ?_ | refine fork_eq ?_ ?_ | refine fork_ne ?_ ?_ | refine fork_intro ?_ ?_) <;> intro h <;> try (exfalso; first | omega | exact h rfl | (revert h; decide) | (cases h; done)))
     | ((with_reducible show False); omega)
     | ((first | (with_reducible first | refine r_exit ?_ | refine r_skip ?_ | refine r_cond ?_ | refine r_region ?_ | refine r_ret ?_ | show VX _ _ _ _ _ _ _ | show vstep _ _ _ _ _ | show vskip _ _ _ | show withV _ _) | ((with_reducible show endA _ _ _ _ _ _ _); simp -implicitDefEqProofs only [endA]) | (with_reducible first | refine pick_viewG default (by first | omega | (simp only [LN, hke, hva, hDd]; omega)) (by first | omega | (simp only [LN, hke, hva, hDd]; omega)) ?_ | refine pick_own default (by first | omega | (simp only [LN, hke, hva, hDd]; omega)) ?_ | refine And.intro (by first | decide | omega | assumption | (simp only [LN, hke, hva, hDd]; omega)) ?_) | ((with_reducible show pickE _ _ _); first | refine pickE_intro _ ⟨by omega, by rfl⟩ ?_ | refine pickE_intro _ (by rfl) ?_) | fail); try simp -dsimp -implicitDefEqProofs (maxSteps := 1000000) (disch := first | omega | (simp only [LN, hke, hva, hDd]; omega)) only [go_sem, hke, hva, hDd])
     | fail)
    ·have hgt : B.done r < v := by omega
     have hkle : kF B 1 r ≤ (D.hist r).length := by rw [hDh, hkf]; omega
     have e1 : IntKind.u64.wrap (v - B.done r) = ((kF B 1 r : Nat) : Int) := by rw [hkf, IntKind.wrap_u64]; omega
     have e2 : IntKind.i64.wrap ((kF B 1 r : Nat) : Int) = ((kF B 1 r : Nat) : Int) := by rw [hkf, IntKind.wrap_i64]; omega
     have kp := dPersist1 es cl D J2 hDw r (kF B 1 r) (by omega) hkle (by have := hJ2 r (by omega); rw [hDd] at this; omega)
     repeat' (first
      | (with_reducible first | refine r_seq ?_ | refine r_block ?_ | refine fork_not ?_ | refine fork_and ?_ | refine fork_or ?_ | refine chk_ok (by kernel_rfl) ?_)
      | ((with_reducible first | refine fork_dec ?_ ?_ | refine fork_eq ?_ ?_ | refine fork_ne ?_ ?_ | refine fork_intro ?_ ?_) <;> intro h <;> try (exfalso; first | omega | exact h rfl | (revert h; decide) | (cases h; done)))
      | ((with_reducible show False); omega)
      | ((first | (with_reducible first | refine r_exit ?_ | refine r_skip ?_ | refine r_cond ?_ | refine r_region ?_ | refine r_ret ?_ | show VX _ _ _ _ _ _ _ | show vstep _ _ _ _ _ | show vskip _ _ _ | show withV _ _) | ((with_reducible show endA _ _ _ _ _ _ _); simp -implicitDefEqProofs only [endA]) | (with_reducible first | refine pick_viewG default (by first | omega | (simp only [LN, hke, hva, e1, e2]; omega)) (by first | omega | (simp only [LN, hke, hva, e1, e2]; omega)) ?_ | refine pick_own default (by first | omega | (simp only [LN, hke, hva, e1, e2]; omega)) ?_ | refine And.intro (by first | decide | omega | assumption | (simp only [LN, hke, hva, e1, e2]; omega)) ?_) | (with_reducible first | apply callK_lent | apply callF_lent | apply hideP_own) | ((with_reducible apply callA_go); (first | exact kp | fail)) | ((with_reducible show pickE _ _ _); first | refine pickE_intro _ ⟨by omega, by rfl⟩ ?_ | refine pickE_intro _ (by rfl) ?_) | fail); try simp -dsimp -implicitDefEqProofs (maxSteps := 1000000) (disch := first | omega | (simp only [LN, hke, hva, e1, e2]; omega)) only [go_sem, hke, hva, e1, e2])
      | fail)
     refine loopQ_next (seen.push e.born, D.persist r (kF B 1 r), jper D J2 r (kF B 1 r)) ⟨?_, ?_⟩ (left_lt he) ?_
     ·show D.persist r (kF B 1 r) = _
      rw [hD]; exact fencS_step hB hnB hr hnew (saw_push hm.st he hke)
     ·exact hJ2.persist (fun i hi => (hDw.len i hi).1) r _ hkle
     ·simp -dsimp -implicitDefEqProofs (maxSteps := 1000000) (disch := first | omega | (simp only [LN]; omega)) only [go_sem]
    ·have hkz : kF B 1 r = 0 := by rw [hkf]; omega
     have hst2 := fencS_step hB hnB hr hnew (saw_push hm.st he hke)
     rw [hkz, persist_0] at hst2
     refine loopQ_next (seen.push e.born, D, J2) ⟨hD.trans hst2, hJ2⟩ (left_lt he) ?_
     simp -dsimp -implicitDefEqProofs (maxSteps := 1000000) (disch := first | omega | (simp only [LN]; omega)) only [go_sem]
 ·simp only [Bool.not_eq_true] at hc
  rw [hc] at kc
  have hf : A.fence 1 = A.cnt 1 true := by unfold Dv.fence; rw [hc]; rfl
  have hjB : JOk (A.cnt 1 true) J := by intro r hr; rw [jk_cnt, (cnt_p A 1 true).2.2.2.2.1]; exact hj r hr
  repeat' (first
   | (with_reducible first | refine r_seq ?_ | refine r_block ?_ | refine fork_not ?_ | refine fork_and ?_ | refine fork_or ?_ | refine chk_ok (by kernel_rfl) ?_)
   | ((with_reducible first | refine fork_dec ?_ ?_ | refine fork_eq ?_ ?_ | refine fork_ne ?_ ?_ | refine fork_intro ?_ ?_) <;> intro h <;> try (exfalso; first | omega | exact h rfl | (revert h; decide) | (cases h; done)))
   | ((with_reducible show False); omega)
   | ((first | (with_reducible first | refine r_exit ?_ | refine r_skip ?_ | refine r_cond ?_ | refine r_region ?_ | refine r_ret ?_ | show VX _ _ _ _ _ _ _ | show vstep _ _ _ _ _ | show vskip _ _ _ | show withV _ _) | ((with_reducible show endA _ _ _ _ _ _ _); simp -implicitDefEqProofs only [endA]) | (with_reducible first | refine pick_viewG default (by first | omega | (simp only [LN]; omega)) (by first | omega | (simp only [LN]; omega)) ?_ | refine pick_own default (by first | omega | (simp only [LN]; omega)) ?_ | refine And.intro (by first | decide | omega | assumption | (simp only [LN]; omega)) ?_) | (with_reducible first | apply callK_lent | apply callF_lent | apply hideP_own) | ((with_reducible apply callA_go); (first | exact kc | fail)) | ((with_reducible show pickE _ _ _); first | refine pickE_intro _ ⟨by omega, by rfl⟩ ?_ | refine pickE_intro _ (by rfl) ?_) | fail); try simp -dsimp -implicitDefEqProofs (maxSteps := 1000000) (disch := first | omega | (simp only [LN]; omega)) only [go_sem])
   | fail)
  (refine endX_i (⟨J, by rw [hf]; exact hjB⟩) ?_; simp -implicitDefEqProofs only [endA]; (simp -dsimp -implicitDefEqProofs (maxSteps := 1000000) (disch := first | omega | (simp only [LN, hf]; omega)) only [go_sem, hf]; try trivial))
set_option maxRecDepth 100000 in
set_option maxHeartbeats 4000000 in
theorem tFence2 (A : Dv) (J : Nat → List (Int × Int)) (h : WF A) (hn : NoteOk A 2) (hj : JOk A J) : ACallsX Tryz.prog 43 [.loc 6 0] [deO A 1 2 3 4, peO A, cuO A, liO A J 12, thO A 0 0 18, thO A 1 0 18, thO A 2 0 18, thO A 3 0 18, thO A 4 0 18, thO A 5 0 18, thO A 6 0 18, thO A 7 0 18, hiO A J 0, hiO A J 1, hiO A J 2, hiO A J 3, hiO A J 4, hiO A J 5, noO A 0, noO A 1, noO A 2, noO A 3, noO A 4, noO A 5, noO A 6, noO A 7] (fun J2 : { J2 : Nat → List (Int × Int) // JOk (A.fence 2) J2 } => .p (.tup [])) (fun J2 : { J2 : Nat → List (Int × Int) // JOk (A.fence 2) J2 } => [deO (A.fence 2) 1 2 3 4, peO (A.fence 2), cuO (A.fence 2), liO (A.fence 2) J2.1 26, thO (A.fence 2) 0 0 18, thO (A.fence 2) 1 0 18, thO (A.fence 2) 2 0 18, thO (A.fence 2) 3 0 18, thO (A.fence 2) 4 0 18, thO (A.fence 2) 5 0 18, thO (A.fence 2) 6 0 18, thO (A.fence 2) 7 0 18, .dead, .dead, .dead, .dead, .dead, .dead, noO (A.fence 2) 0, noO (A.fence 2) 1, noO (A.fence 2) 2, noO (A.fence 2) 3, noO (A.fence 2) 4, noO (A.fence 2) 5, noO (A.fence 2) 6, noO (A.fence 2) 7, hiO (A.fence 2) J2.1 0, hiO (A.fence 2) J2.1 1, hiO (A.fence 2) J2.1 2, hiO (A.fence 2) J2.1 3, hiO (A.fence 2) J2.1 4, hiO (A.fence 2) J2.1 5]) := by
 refine acallsx_of (E := E) (fn := Tryz.f43) 57 [] rfl rfl rfl rfl (by decide) rfl (fun _ => rfl) ?_
 have hk : 2 < 8 := by decide
 have kc := tCnt A J 2 hk true
 by_cases hc : A.cntB true = true
 ·rw [hc] at kc
  have hB := h.cnt 2 true
  have hnB := hn.cnt 2 true
  have hjB : JOk (A.cnt 2 true) J := by intro r hr; rw [jk_cnt, (cnt_p A 2 true).2.2.2.2.1]; exact hj r hr
  have hf : A.fence 2 = { fencS (A.cnt 2 true) 2 (fun _ => True) with note := upd (A.cnt 2 true).note 2 (fun _ => none) } := if_pos hc
  generalize A.cnt 2 true = B at *
  repeat' ((fail_if_success (with_reducible show awp _ _ (Code.region 1 _ _) _ _)); first
   | (with_reducible first | refine r_seq ?_ | refine r_block ?_ | refine fork_not ?_ | refine fork_and ?_ | refine fork_or ?_ | refine chk_ok (by kernel_rfl) ?_)
   | ((with_reducible first | refine fork_dec ?_ ?_ | refine fork_eq ?_ ?_ | refine fork_ne ?_ ?_ | refine fork_intro ?_ ?_) <;> intro h <;> try (exfalso; first | omega | exact h rfl | (revert h; decide) | (cases h; done)))
   | ((with_reducible show False); omega)
   | ((first | (with_reducible first | refine r_exit ?_ | refine r_skip ?_ | refine r_cond ?_ | refine r_region ?_ | refine r_ret ?_ | show VX _ _ _ _ _ _ _ | show vstep _ _ _ _ _ | show vskip _ _ _ | show withV _ _) | ((with_reducible show endA _ _ _ _ _ _ _); simp -implicitDefEqProofs only [endA]) | (with_reducible first | refine pick_viewG default (by first | omega | (simp only [LN]; omega)) (by first | omega | (simp only [LN]; omega)) ?_ | refine pick_own default (by first | omega | (simp only [LN]; omega)) ?_ | refine And.intro (by first | decide | omega | assumption | (simp only [LN]; omega)) ?_) | (with_reducible first | apply callK_lent | apply callF_lent | apply hideP_own) | ((with_reducible apply callA_go); (first | exact kc | fail)) | ((with_reducible show pickE _ _ _); first | refine pickE_intro _ ⟨by omega, by rfl⟩ ?_ | refine pickE_intro _ (by rfl) ?_) | fail); try simp -dsimp -implicitDefEqProofs (maxSteps := 1000000) (disch := first | omega | (simp only [LN]; omega)) only [go_sem])
   | fail)
  refine r_openM 20 (some .i64) (.i .u64 (B.note 2)) rfl fun es cl hm => ?_
  simp -dsimp -implicitDefEqProofs (maxSteps := 1000000) (disch := first | omega | (simp only [LN]; omega)) only [go_sem]
  repeat' ((fail_if_success (with_reducible show awp _ _ (Code.region 2 _ _) _ _)); first
   | (with_reducible first | refine r_seq ?_ | refine r_block ?_ | refine fork_not ?_ | refine fork_and ?_ | refine fork_or ?_ | refine chk_ok (by kernel_rfl) ?_)
   | ((with_reducible first | refine fork_dec ?_ ?_ | refine fork_eq ?_ ?_ | refine fork_ne ?_ ?_ | refine fork_intro ?_ ?_) <;> intro h <;> try (exfalso; first | omega | exact h rfl | (revert h; decide) | (cases h; done)))
   | ((with_reducible show False); omega)
   | ((first | (with_reducible first | refine r_exit ?_ | refine r_skip ?_ | refine r_cond ?_ | refine r_region ?_ | refine r_ret ?_ | show VX _ _ _ _ _ _ _ | show vstep _ _ _ _ _ | show vskip _ _ _ | show withV _ _) | ((with_reducible show endA _ _ _ _ _ _ _); simp -implicitDefEqProofs only [endA]) | (with_reducible first | refine pick_viewG default (by first | omega | (simp only [LN]; omega)) (by first | omega | (simp only [LN]; omega)) ?_ | refine pick_own default (by first | omega | (simp only [LN]; omega)) ?_ | refine And.intro (by first | decide | omega | assumption | (simp only [LN]; omega)) ?_) | ((with_reducible show pickE _ _ _); first | refine pickE_intro _ ⟨by omega, by rfl⟩ ?_ | refine pickE_intro _ (by rfl) ?_) | fail); try simp -dsimp -implicitDefEqProofs (maxSteps := 1000000) (disch := first | omega | (simp only [LN]; omega)) only [go_sem])
   | fail)
  have hst := (MapKept.stamped_iff es cl).1 hm.st
  refine r_loop (α := Array Nat × Dv × (Nat → List (Int × Int))) (fun x => ⟨57, [(0, some (.loc 6 0)), (23, some (.loc 26 0))], [some (deO x.2.1 1 2 3 4), some (peO x.2.1), some (cuO x.2.1), some (liO x.2.1 x.2.2 27), some (thO x.2.1 0 0 18), some (thO x.2.1 1 0 18), some (thO x.2.1 2 0 18), some (thO x.2.1 3 0 18), some (thO x.2.1 4 0 18), some (thO x.2.1 5 0 18), some (thO x.2.1 6 0 18), some (thO x.2.1 7 0 18), some (Ob.dead), some (Ob.dead), some (Ob.dead), some (Ob.dead), some (Ob.dead), some (Ob.dead), some (noO x.2.1 0), some (noO x.2.1 1), some (Ob.mpx (some .i64) es cl), some (noO x.2.1 3), some (noO x.2.1 4), some (noO x.2.1 5), some (noO x.2.1 6), some (noO x.2.1 7), some (Ob.it (.mref 20) cl x.1 cl), some (hiO x.2.1 x.2.2 0), some (hiO x.2.1 x.2.2 1), some (hiO x.2.1 x.2.2 2), some (hiO x.2.1 x.2.2 3), some (hiO x.2.1 x.2.2 4), some (hiO x.2.1 x.2.2 5)]⟩) (fun x => x.2.1 = fencS B 2 (Saw es x.1) ∧ JOk x.2.1 x.2.2) (fun x => (leftOf es x.1).size) (#[], B, J) ?_ ?_ ?_
  ·refine ⟨(fencS_none hB ?_ ?_).symm, hjB⟩
   ·rintro r _ ⟨e, _, _, hs⟩; simp at hs
   ·rintro r _ ⟨e, _, _, hs⟩; simp at hs
  ·refine wk_auto ?_
   simp -dsimp -implicitDefEqProofs (maxSteps := 1000000) (disch := first | omega | (simp only [LN]; omega)) only [go_sem]
  ·rintro ⟨seen, D, J2⟩ ⟨hD, hJ2⟩
   simp only at hD hJ2
   simp -dsimp -implicitDefEqProofs (maxSteps := 1000000) (disch := first | omega | (simp only [LN]; omega)) only [go_sem]
   repeat' ((fail_if_success (with_reducible show awp _ _ (Code.region 2 _ _) _ _)); first
    | (with_reducible first | refine r_seq ?_ | refine r_block ?_ | refine fork_not ?_ | refine fork_and ?_ | refine fork_or ?_ | refine chk_ok (by kernel_rfl) ?_)
    | ((with_reducible first | refine fork_dec ?_ ?_ | refine fork_eq ?_ ?_ | refine fork_ne ?_ ?_ | refine fork_intro ?_ ?_) <;> intro h <;> try (exfalso; first | omega | exact h rfl | (revert h; decide) | (cases h; done)))
    | ((with_reducible show False); omega)
    | ((first | (with_reducible first | refine r_exit ?_ | refine r_skip ?_ | refine r_cond ?_ | refine r_region ?_ | refine r_ret ?_ | show VX _ _ _ _ _ _ _ | show vstep _ _ _ _ _ | show vskip _ _ _ | show withV _ _) | ((with_reducible show endA _ _ _ _ _ _ _); simp -implicitDefEqProofs only [endA]) | (with_reducible first | refine pick_viewG default (by first | omega | (simp only [LN]; omega)) (by first | omega | (simp only [LN]; omega)) ?_ | refine pick_own default (by first | omega | (simp only [LN]; omega)) ?_ | refine And.intro (by first | decide | omega | assumption | (simp only [LN]; omega)) ?_) | ((with_reducible show pickE _ _ _); first | refine pickE_intro _ ⟨by omega, by rfl⟩ ?_ | refine pickE_intro _ (by rfl) ?_) | fail); try simp -dsimp -implicitDefEqProofs (maxSteps := 1000000) (disch := first | omega | (simp only [LN]; omega)) only [go_sem])
    | fail)
   have hDw : WF D := hD ▸ wf_fencS hB hnB _
   have hDn : D.n = B.n := by rw [hD]; rfl
   have h6 := hB.n6
   refine r_next (it := 23) (t := 24) (k := 26) (m := 20) (since := cl) (last := cl) (cl := cl) (seen := seen) (kk := some .i64) (es := es) rfl rfl rfl (by show 24 < 57; decide) rfl rfl rfl hst.1 (Nat.le_refl _) ?_ ?_ ?_
   ·intro e he
    obtain ⟨r, v, _, e1, _, e2, _⟩ := entry_is hnB hm he
    rw [e1, e2]; exact ⟨rfl, rfl⟩
   ·intro h0
    have hDa : D = fencS B 2 (fun _ => True) := hD.trans (fencS_all (fun r hr => (hB.len r hr).1) h6 hnB hm h0)
    subst hDa
    repeat' ((fail_if_success (with_reducible show awp _ _ (Code.region 7 _ _) _ _)); first
     | (with_reducible first | refine r_seq ?_ | refine r_block ?_ | refine fork_not ?_ | refine fork_and ?_ | refine fork_or ?_ | refine chk_ok (by kernel_rfl) ?_)
     | ((with_reducible first | refine fork_dec ?_ ?_ | refine fork_eq ?_ ?_ | refine fork_ne ?_ ?_ | refine fork_intro ?_ ?_) <;> intro h <;> try (exfalso; first | omega | exact h rfl | (revert h; decide) | (cases h; done)))
     | ((with_reducible show False); omega)
     | ((first | (with_reducible first | refine r_exit ?_ | refine r_skip ?_ | refine r_cond ?_ | refine r_region ?_ | refine r_ret ?_ | show VX _ _ _ _ _ _ _ | show vstep _ _ _ _ _ | show vskip _ _ _ | show withV _ _) | ((with_reducible show endA _ _ _ _ _ _ _); simp -implicitDefEqProofs only [endA]) | (with_reducible first | refine pick_viewG default (by first | omega | (simp only [LN]; omega)) (by first | omega | (simp only [LN]; omega)) ?_ | refine pick_own default (by first | omega | (simp only [LN]; omega)) ?_ | refine And.intro (by first | decide | omega | assumption | (simp only [LN]; omega)) ?_) | ((with_reducible show pickE _ _ _); first | refine pickE_intro _ ⟨by omega, by rfl⟩ ?_ | refine pickE_intro _ (by rfl) ?_) | fail); try simp -dsimp -implicitDefEqProofs (maxSteps := 1000000) (disch := first | omega | (simp only [LN]; omega)) only [go_sem])
     | fail)
    refine r_shutM 20 (some .i64) es cl (.i .u64 (B.note 2)) hm rfl ?_
    simp -dsimp -implicitDefEqProofs (maxSteps := 1000000) (disch := first | omega | (simp only [LN]; omega)) only [go_sem]
    repeat' (first
     | (with_reducible first | refine r_seq ?_ | refine r_block ?_ | refine fork_not ?_ | refine fork_and ?_ | refine fork_or ?_ | refine chk_ok (by kernel_rfl) ?_)
     | ((with_reducible first | refine fork_dec ?_ ?_ | refine fork_eq ?_ ?_ | refine fork_ne ?_ ?_ | refine fork_intro ?_ ?_) <;> intro h <;> try (exfalso; first | omega | exact h rfl | (revert h; decide) | (cases h; done)))
     | ((with_reducible show False); omega)
     | ((first | (with_reducible first | refine r_exit ?_ | refine r_skip ?_ | refine r_cond ?_ | refine r_region ?_ | refine r_ret ?_ | show VX _ _ _ _ _ _ _ | show vstep _ _ _ _ _ | show vskip _ _ _ | show withV _ _) | ((with_reducible show endA _ _ _ _ _ _ _); simp -implicitDefEqProofs only [endA]) | (with_reducible first | refine pick_viewG default (by first | omega | (simp only [LN]; omega)) (by first | omega | (simp only [LN]; omega)) ?_ | refine pick_own default (by first | omega | (simp only [LN]; omega)) ?_ | refine And.intro (by first | decide | omega | assumption | (simp only [LN]; omega)) ?_) | ((with_reducible show pickE _ _ _); first | refine pickE_intro _ ⟨by omega, by rfl⟩ ?_ | refine pickE_intro _ (by rfl) ?_) | fail); try simp -dsimp -implicitDefEqProofs (maxSteps := 1000000) (disch := first | omega | (simp only [LN]; omega)) only [go_sem])
     | fail)
    (refine endX_i (⟨J2, by rw [hf]; exact hJ2⟩) ?_; simp -implicitDefEqProofs only [endA]; (simp -dsimp -implicitDefEqProofs (maxSteps := 1000000) (disch := first | omega | (simp only [LN, hf]; omega)) only [go_sem, hf]; try trivial))
    simp [jk, upd, fencS]
   ·intro e he
    obtain ⟨hmem, hns⟩ := left_mem he
    obtain ⟨r, v, hr, hke, hno, hva, hv0, hv1⟩ := entry_is hnB hm hmem
    have hnew := saw_new hm.st he hke
    have hDd : D.done r = B.done r := by rw [hD]; exact if_neg hnew
    have hDh : D.hist r = B.hist r := by rw [hD]; exact if_neg hnew
    have hlr := hB.len r (by omega)
    have hkf : kF B 2 r = (v - B.done r).toNat := by unfold kF; rw [hno]
    repeat' ((fail_if_success (with_reducible show awp _ _ (Code.region 3 _ _) _ _)); first
     | (with_reducible first | refine r_seq ?_ | refine r_block ?_ | refine fork_not ?_ | refine fork_and ?_ | refine fork_or ?_ | refine chk_ok (by kernel_rfl) ?_)
     | ((with_reducible first | refine fork_dec ?_ ?_ | refine fork_eq ?_ ?_ | refine fork_ne ?_ ?_ | refine fork_intro ?_ ?_) <;> intro h <;> try (exfalso; first | omega | exact h rfl | (revert h; decide) | (cases h; done)))
     | ((with_reducible show False); omega)
     | ((first | (with_reducible first | refine r_exit ?_ | refine r_skip ?_ | refine r_cond ?_ | refine r_region ?_ | refine r_ret ?_ | show VX _ _ _ _ _ _ _ | show vstep _ _ _ _ _ | show vskip _ _ _ | show withV _ _) | ((with_reducible show endA _ _ _ _ _ _ _); simp -implicitDefEqProofs only [endA]) | (with_reducible first | refine pick_viewG default (by first | omega | (simp only [LN, hke, hva]; omega)) (by first | omega | (simp only [LN, hke, hva]; omega)) ?_ | refine pick_own default (by first | omega | (simp only [LN, hke, hva]; omega)) ?_ | refine And.intro (by first | decide | omega | assumption | (simp only [LN, hke, hva]; omega)) ?_) | ((with_reducible show pickE _ _ _); first | refine pickE_intro _ ⟨by omega, by rfl⟩ ?_ | refine pickE_intro _ (by rfl) ?_) | fail); try simp -dsimp -implicitDefEqProofs (maxSteps := 1000000) (disch := first | omega | (simp only [LN, hke, hva]; omega)) only [go_sem, hke, hva])
     | fail)
    repeat' (first
     | (with_reducible first | refine r_seq ?_ | refine r_block ?_ | refine fork_not ?_ | refine fork_and ?_ | refine fork_or ?_ | refine chk_ok (by kernel_rfl) ?_)
     | ((with_reducible first | refine fork_dec ?_ ?_ | refine fork_eq ?_ ?_ | refine fork_ne ?_ ?_ | refine fork_intro ?_ ?_) <;> intro h <;> try (exfalso; first | omega | exact h rfl | (revert h; decide) | (cases h; done)))
     | ((with_reducible show False); omega)
     | ((first | (with_reducible first | refine r_exit ?_ | refine r_skip ?_ | refine r_cond ?_ | refine r_region ?_ | refine r_ret ?_ | show VX _ _ _ _ _ _ _ | show vstep _ _ _ _ _ | show vskip _ _ _ | show withV _ _) | ((with_reducible show endA _ _ _ _ _ _ _); simp -implicitDefEqProofs only [endA]) | (with_reducible first | refine pick_viewG default (by first | omega | (simp only [LN, hke, hva]; omega)) (by first | omega | (simp only [LN, hke, hva]; omega)) ?_ | refine pick_own default (by first | omega | (simp only [LN, hke, hva]; omega)) ?_ | refine And.intro (by first | decide | omega | assumption | (simp only [LN, hke, hva]; omega)) ?_) | ((with_reducible show pickE _ _ _); first | refine pickE_intro _ ⟨by omega, by rfl⟩ ?_ | refine pickE_intro _ (by rfl) ?_) | fail); try simp -dsimp -implicitDefEqProofs (maxSteps := 1000000) (disch := first | omega | (simp only [LN, hke, hva]; omega)) only [go_sem, hke, hva])
     | fail)
    refine pickE_intro e (by simp [hmem, hke, hva]; exact hst.2.1) ?_
    simp -dsimp -implicitDefEqProofs (maxSteps := 1000000) (disch := first | omega | (simp only [LN, hke, hva]; omega)) only [go_sem, hke, hva]
    repeat' ((fail_if_success (with_reducible show awp _ _ (Code.region 6 _ _) _ _)); first
     | (with_reducible first | refine r_seq ?_ | refine r_block ?_ | refine fork_not ?_ | refine fork_and ?_ | refine fork_or ?_ | refine chk_ok (by kernel_rfl) ?_)
     | ((with_reducible first | refine fork_dec ?_ ?_ | refine fork_eq ?_ ?_ | refine fork_ne ?_ ?_ | refine fork_intro ?_ ?_) <;> intro h <;> try (exfalso; first | omega | exact h rfl | (revert h; decide) | (cases h; done)))
     | ((with_reducible show False); omega)
     | ((first | (with_reducible first | refine r_exit ?_ | refine r_skip ?_ | refine r_cond ?_ | refine r_region ?_ | refine r_ret ?_ | show VX _ _ _ _ _ _ _ | show vstep _ _ _ _ _ | show vskip _ _ _ | show withV _ _) | ((with_reducible show endA _ _ _ _ _ _ _); simp -implicitDefEqProofs only [endA]) | (with_reducible first | refine pick_viewG default (by first | omega | (simp only [LN, hke, hva, hDd]; omega)) (by first | omega | (simp only [LN, hke, hva, hDd]; omega)) ?_ | refine pick_own default (by first | omega | (simp only [LN, hke, hva, hDd]; omega)) ?_ | refine And.intro (by first | decide | omega | assumption | (simp only [LN, hke, hva, hDd]; omega)) ?_) | ((with_reducible show pickE _ _ _); first | refine pickE_intro _ ⟨by omega, by rfl⟩ ?_ | refine pickE_intro _ (by rfl) ?_) | fail); try simp -dsimp -implicitDefEqProofs (maxSteps := 1000000) (disch := first | omega | (simp only [LN, hke, hva, hDd]; omega)) only [go_sem, hke, hva, hDd])
     | fail)
    ·have hgt : B.done r < v := by omega
     have hkle : kF B 2 r ≤ (D.hist r).length := by rw [hDh, hkf]; omega
     have e1 : IntKind.u64.wrap (v - B.done r) = ((kF B 2 r : Nat) : Int) := by rw [hkf, IntKind.wrap_u64]; omega
     have e2 : IntKind.i64.wrap ((kF B 2 r : Nat) : Int) = ((kF B 2 r : Nat) : Int) := by rw [hkf, IntKind.wrap_i64]; omega
     have kp := dPersist2 es cl D J2 hDw r (kF B 2 r) (by omega) hkle (by have := hJ2 r (by omega); rw [hDd] at this; omega)
     repeat' (first
      | (with_reducible first | refine r_seq ?_ | refine r_block ?_ | refine fork_not ?_ | refine fork_and ?_ | refine fork_or ?_ | refine chk_ok (by kernel_rfl) ?_)
      | ((with_reducible first | refine fork_dec ?_ ?_ | refine fork_eq ?_ ?_ | refine fork_ne ?_ ?_ | refine fork_intro ?_ ?_) <;> intro h <;> try (exfalso; first | omega | exact h rfl | (revert h; decide) | (cases h; done)))
      | ((with_reducible show False); omega)
      | ((first | (with_reducible first | refine r_exit ?_ | refine r_skip ?_ | refine r_cond ?_ | refine r_region ?_ | refine r_ret ?_ | show VX _ _ _ _ _ _ _ | show vstep _ _ _ _ _ | show vskip _ _ _ | show withV _ _) | ((with_reducible show endA _ _ _ _ _ _ _); simp -implicitDefEqProofs only [endA]) | (with_reducible first | refine pick_viewG default (by first | omega | (simp only [LN, hke, hva, e1, e2]; omega)) (by first | omega | (simp only [LN, hke, hva, e1, e2]; omega)) ?_ | refine pick_own default (by first | omega | (simp only [LN, hke, hva, e1, e2]; omega)) ?_ | refine And.intro (by first | decide | omega | assumption | (simp only [LN, hke, hva, e1, e2]; omega)) ?_) | (with_reducible first | apply callK_lent | apply callF_lent | apply hideP_own) | ((with_reducible apply callA_go); (first | exact kp | fail)) | ((with_reducible show pickE _ _ _); first | refine pickE_intro _ ⟨by omega, by rfl⟩ ?_ | refine pickE_intro _ (by rfl) ?_) | fail); try simp -dsimp -implicitDefEqProofs (maxSteps := 1000000) (disch := first | omega | (simp only [LN, hke, hva, e1, e2]; omega)) only [go_sem, hke, hva, e1, e2])
      | fail)
     refine loopQ_next (seen.push e.born, D.persist r (kF B 2 r), jper D J2 r (kF B 2 r)) ⟨?_, ?_⟩ (left_lt he) ?_
     ·show D.persist r (kF B 2 r) = _
      rw [hD]; exact fencS_step hB hnB hr hnew (saw_push hm.st he hke)
     ·exact hJ2.persist (fun i hi => (hDw.len i hi).1) r _ hkle
     ·simp -dsimp -implicitDefEqProofs (maxSteps := 1000000) (disch := first | omega | (simp only [LN]; omega)) only [go_sem]
    ·have hkz : kF B 2 r = 0 := by rw [hkf]; omega
     have hst2 := fencS_step hB hnB hr hnew (saw_push hm.st he hke)
     rw [hkz, persist_0] at hst2
     refine loopQ_next (seen.push e.born, D, J2) ⟨hD.trans hst2, hJ2⟩ (left_lt he) ?_
     simp -dsimp -implicitDefEqProofs (maxSteps := 1000000) (disch := first | omega | (simp only [LN]; omega)) only [go_sem]
 ·simp only [Bool.not_eq_true] at hc
  rw [hc] at kc
  have hf : A.fence 2 = A.cnt 2 true := by unfold Dv.fence; rw [hc]; rfl
  have hjB : JOk (A.cnt 2 true) J := by intro r hr; rw [jk_cnt, (cnt_p A 2 true).2.2.2.2.1]; exact hj r hr
  repeat' (first
   | (with_reducible first | refine r_seq ?_ | refine r_block ?_ | refine fork_not ?_ | refine fork_and ?_ | refine fork_or ?_ | refine chk_ok (by kernel_rfl) ?_)
   | ((with_reducible first | refine fork_dec ?_ ?_ | refine fork_eq ?_ ?_ | refine fork_ne ?_ ?_ | refine fork_intro ?_ ?_) <;> intro h <;> try (exfalso; first | omega | exact h rfl | (revert h; decide) | (cases h; done)))
   | ((with_reducible show False); omega)
   | ((first | (with_reducible first | refine r_exit ?_ | refine r_skip ?_ | refine r_cond ?_ | refine r_region ?_ | refine r_ret ?_ | show VX _ _ _ _ _ _ _ | show vstep _ _ _ _ _ | show vskip _ _ _ | show withV _ _) | ((with_reducible show endA _ _ _ _ _ _ _); simp -implicitDefEqProofs only [endA]) | (with_reducible first | refine pick_viewG default (by first | omega | (simp only [LN]; omega)) (by first | omega | (simp only [LN]; omega)) ?_ | refine pick_own default (by first | omega | (simp only [LN]; omega)) ?_ | refine And.intro (by first | decide | omega | assumption | (simp only [LN]; omega)) ?_) | (with_reducible first | apply callK_lent | apply callF_lent | apply hideP_own) | ((with_reducible apply callA_go); (first | exact kc | fail)) | ((with_reducible show pickE _ _ _); first | refine pickE_intro _ ⟨by omega, by rfl⟩ ?_ | refine pickE_intro _ (by rfl) ?_) | fail); try simp -dsimp -implicitDefEqProofs (maxSteps := 1000000) (disch := first | omega | (simp only [LN]; omega)) only [go_sem])
   | fail)
  (refine endX_i (⟨J, by rw [hf]; exact hjB⟩) ?_; simp -implicitDefEqProofs only [endA]; (simp -dsimp -implicitDefEqProofs (maxSteps := 1000000) (disch := first | omega | (simp only [LN, hf]; omega)) only [go_sem, hf]; try trivial))
set_option maxRecDepth 100000 in
set_option maxHeartbeats 4000000 in
theorem tFence3 (A : Dv) (J : Nat → List (Int × Int)) (h : WF A) (hn : NoteOk A 3) (hj : JOk A J) : ACallsX Tryz.prog 43 [.loc 7 0] [deO A 1 2 3 4, peO A, cuO A, liO A J 12, thO A 0 0 18, thO A 1 0 18, thO A 2 0 18, thO A 3 0 18, thO A 4 0 18, thO A 5 0 18, thO A 6 0 18, thO A 7 0 18, hiO A J 0, hiO A J 1, hiO A J 2, hiO A J 3, hiO A J 4, hiO A J 5, noO A 0, noO A 1, noO A 2, noO A 3, noO A 4, noO A 5, noO A 6, noO A 7] (fun J2 : { J2 : Nat → List (Int × Int) // JOk (A.fence 3) J2 } => .p (.tup [])) (fun J2 : { J2 : Nat → List (Int × Int) // JOk (A.fence 3) J2 } => [deO (A.fence 3) 1 2 3 4, peO (A.fence 3), cuO (A.fence 3), liO (A.fence 3) J2.1 26, thO (A.fence 3) 0 0 18, thO (A.fence 3) 1 0 18, thO (A.fence 3) 2 0 18, thO (A.fence 3) 3 0 18, thO (A.fence 3) 4 0 18, thO (A.fence 3) 5 0 18, thO (A.fence 3) 6 0 18, thO (A.fence 3) 7 0 18, .dead, .dead, .dead, .dead, .dead, .dead, noO (A.fence 3) 0, noO (A.fence 3) 1, noO (A.fence 3) 2, noO (A.fence 3) 3, noO (A.fence 3) 4, noO (A.fence 3) 5, noO (A.fence 3) 6, noO (A.fence 3) 7, hiO (A.fence 3) J2.1 0, hiO (A.fence 3) J2.1 1, hiO (A.fence 3) J2.1 2, hiO (A.fence 3) J2.1 3, hiO (A.fence 3) J2.1 4, hiO (A.fence 3) J2.1 5]) := by
 refine acallsx_of (E := E) (fn := Tryz.f43) 57 [] rfl rfl rfl rfl (by decide) rfl (fun _ => rfl) ?_
 have hk : 3 < 8 := by decide
 have kc := tCnt A J 3 hk true
 by_cases hc : A.cntB true = true
 ·rw [hc] at kc
  have hB := h.cnt 3 true
  have hnB := hn.cnt 3 true
  have hjB : JOk (A.cnt 3 true) J := by intro r hr; rw [jk_cnt, (cnt_p A 3 true).2.2.2.2.1]; exact hj r hr
  have hf : A.fence 3 = { fencS (A.cnt 3 true) 3 (fun _ => True) with note := upd (A.cnt 3 true).note 3 (fun _ => none) } := if_pos hc
  generalize A.cnt 3 true = B at *
  repeat' ((fail_if_success (with_reducible show awp _ _ (Code.region 1 _ _) _ _)); first
   | (with_reducible first | refine r_seq ?_ | refine r_block ?_ | refine fork_not ?_ | refine fork_and ?_ | refine fork_or ?_ | refine chk_ok (by kernel_rfl) ?_)
   | ((with_reducible first | refine fork_dec ?_ ?_ | refine fork_eq ?_ ?_ | refine fork_ne ?_ ?_ | refine fork_intro ?_ ?_) <;> intro h <;> try (exfalso; first | omega | exact h rfl | (revert h; decide) | (cases h; done)))
   | ((with_reducible show False); omega)
   | ((first | (with_reducible first | refine r_exit ?_ | refine r_skip ?_ | refine r_cond ?_ | refine r_region ?_ | refine r_ret ?_ | show VX _ _ _ _ _ _ _ | show vstep _ _ _ _ _ | show vskip _ _ _ | show withV _ _) | ((with_reducible show endA _ _ _ _ _ _ _); simp -implicitDefEqProofs only [endA]) | (with_reducible first | refine pick_viewG default (by first | omega | (simp only [LN]; omega)) (by first | omega | (simp only [LN]; omega)) ?_ | refine pick_own default (by first | omega | (simp only [LN]; omega)) ?_ | refine And.intro (by first | decide | omega | assumption | (simp only [LN]; omega)) ?_) | (with_reducible first | apply callK_lent | apply callF_lent | apply hideP_own) | ((with_reducible apply callA_go); (first | exact kc | fail)) | ((with_reducible show pickE _ _ _); first | refine pickE_intro _ ⟨by omega, by rfl⟩ ?_ | refine pickE_intro _ (by rfl) ?_) | fail); try simp -dsimp -implicitDefEqProofs (maxSteps := 1000000) (disch := first | omega | (simp only [LN]; omega)) only [go_sem])
   | fail)
  refine r_openM 21 (some .i64) (.i .u64 (B.note 3)) rfl fun es cl hm => ?_
  simp -dsimp -implicitDefEqProofs (maxSteps := 1000000) (disch := first | omega | (simp only [LN]; omega)) only [go_sem]
  repeat' ((fail_if_success (with_reducible show awp _ _ (Code.region 2 _ _) _ _)); first
   | (with_reducible first | refine r_seq ?_ | refine r_block ?_ | refine fork_not ?_ | refine fork_and ?_ | refine fork_or ?_ | refine chk_ok (by kernel_rfl) ?_)
   | ((with_reducible first | refine fork_dec ?_ ?_ | refine fork_eq ?_ ?_ | refine fork_ne ?_ ?_ | refine fork_intro ?_ ?_) <;> intro h <;> try (exfalso; first | omega | exact h rfl | (revert h; decide) | (cases h; done)))
   | ((with_reducible show False); omega)
   | ((first | (with_reducible first | refine r_exit ?_ | refine r_skip ?_ | refine r_cond ?_ | refine r_region ?_ | refine r_ret ?_ | show VX _ _ _ _ _ _ _ | show vstep _ _ _ _ _ | show vskip _ _ _ | show withV _ _) | ((with_reducible show endA _ _ _ _ _ _ _); simp -implicitDefEqProofs only [endA]) | (with_reducible first | refine pick_viewG default (by first | omega | (simp only [LN]; omega)) (by first | omega | (simp only [LN]; omega)) ?_ | refine pick_own default (by first | omega | (simp only [LN]; omega)) ?_ | refine And.intro (by first | decide | omega | assumption | (simp only [LN]; omega)) ?_) | ((with_reducible show pickE _ _ _); first | refine pickE_intro _ ⟨by omega, by rfl⟩ ?_ | refine pickE_intro _ (by rfl) ?_) | fail); try simp -dsimp -implicitDefEqProofs (maxSteps := 1000000) (disch := first | omega | (simp only [LN]; omega)) only [go_sem])
   | fail)
  have hst := (MapKept.stamped_iff es cl).1 hm.st
  refine r_loop (α := Array Nat × Dv × (Nat → List (Int × Int))) (fun x => ⟨57, [(0, some (.loc 7 0)), (23, some (.loc 26 0))], [some (deO x.2.1 1 2 3 4), some (peO x.2.1), some (cuO x.2.1), some (liO x.2.1 x.2.2 27), some (thO x.2.1 0 0 18), some (thO x.2.1 1 0 18), some (thO x.2.1 2 0 18), some (thO x.2.1 3 0 18), some (thO x.2.1 4 0 18), some (thO x.2.1 5 0 18), some (thO x.2.1 6 0 18), some (thO x.2.1 7 0 18), some (Ob.dead), some (Ob.dead), some (Ob.dead), some (Ob.dead), some (Ob.dead), some (Ob.dead), some (noO x.2.1 0), some (noO x.2.1 1), some (noO x.2.1 2), some (Ob.mpx (some .i64) es cl), some (noO x.2.1 4), some (noO x.2.1 5), some (noO x.2.1 6), some (noO x.2.1 7), some (Ob.it (.mref 21) cl x.1 cl), some (hiO x.2.1 x.2.2 0), some (hiO x.2.1 x.2.2 1), some (hiO x.2.1 x.2.2 2), some (hiO x.2.1 x.2.2 3), some (hiO x.2.1 x.2.2 4), some (hiO x.2.1 x.2.2 5)]⟩) (fun x => x.2.1 = fencS B 3 (Saw es x.1) ∧ JOk x.2.1 x.2.2) (fun x => (leftOf es x.1).size) (#[], B, J) ?_ ?_ ?_
  ·refine ⟨(fencS_none hB ?_ ?_).symm, hjB⟩
   ·rintro r _ ⟨e, _, _, hs⟩; simp at hs
   ·rintro r _ ⟨e, _, _, hs⟩; simp at hs
  ·refine wk_auto ?_
   simp -dsimp -implicitDefEqProofs (maxSteps := 1000000) (disch := first | omega | (simp only [LN]; omega)) only [go_sem]
  ·rintro ⟨seen, D, J2⟩ ⟨hD, hJ2⟩
   simp only at hD hJ2
   simp -dsimp -implicitDefEqProofs (maxSteps := 1000000) (disch := first | omega | (simp only [LN]; omega)) only [go_sem]
   repeat' ((fail_if_success (with_reducible show awp _ _ (Code.region 2 _ _) _ _)); first
    | (with_reducible first | refine r_seq ?_ | refine r_block ?_ | refine fork_not ?_ | refine fork_and ?_ | refine fork_or ?_ | refine chk_ok (by kernel_rfl) ?_)
    | ((with_reducible first | refine fork_dec ?_ ?_ | refine fork_eq ?_ ?_ | refine fork_ne ?_ ?_ | refine fork_intro ?_ ?_) <;> intro h <;> try (exfalso; first | omega | exact h rfl | (revert h; decide) | (cases h; done)))
    | ((with_reducible show False); omega)
    | ((first | (with_reducible first | refine r_exit ?_ | refine r_skip ?_ | refine r_cond ?_ | refine r_region ?_ | refine r_ret ?_ | show VX _ _ _ _ _ _ _ | show vstep _ _ _ _ _ | show vskip _ _ _ | show withV _ _) | ((with_reducible show endA _ _ _ _ _ _ _); simp -implicitDefEqProofs only [endA]) | (with_reducible first | refine pick_viewG default (by first | omega | (simp only [LN]; omega)) (by first | omega | (simp only [LN]; omega)) ?_ | refine pick_own default (by first | omega | (simp only [LN]; omega)) ?_ | refine And.intro (by first | decide | omega | assumption | (simp only [LN]; omega)) ?_) | ((with_reducible show pickE _ _ _); first | refine pickE_intro _ ⟨by omega, by rfl⟩ ?_ | refine pickE_intro _ (by rfl) ?_) | fail); try simp -dsimp -implicitDefEqProofs (maxSteps := 1000000) (disch := first | omega | (simp only [LN]; omega)) only [go_sem])
    | fail)
   have hDw : WF D := hD ▸ wf_fencS hB hnB _
   have hDn : D.n = B.n := by rw [hD]; rfl
   have h6 := hB.n6
   refine r_next (it := 23) (t := 24) (k := 26) (m := 21) (since := cl) (last := cl) (cl := cl) (seen := seen) (kk := some .i64) (es := es) rfl rfl rfl (by show 24 < 57; decide) rfl rfl rfl hst.1 (Nat.le_refl _) ?_ ?_ ?_
   ·intro e he
    obtain ⟨r, v, _, e1, _, e2, _⟩ := entry_is hnB hm he
    rw [e1, e2]; exact ⟨rfl, rfl⟩
   ·intro h0
    have hDa : D = fencS B 3 (fun _ => True) := hD.trans (fencS_all (fun r hr => (hB.len r hr).1) h6 hnB hm h0)
    subst hDa
    repeat' ((fail_if_success (with_reducible show awp _ _ (Code.region 7 _ _) _ _)); first
     | (with_reducible first | refine r_seq ?_ | refine r_block ?_ | refine fork_not ?_ | refine fork_and ?_ | refine fork_or ?_ | refine chk_ok (by kernel_rfl) ?_)
     | ((with_reducible first | refine fork_dec ?_ ?_ | refine fork_eq ?_ ?_ | refine fork_ne ?_ ?_ | refine fork_intro ?_ ?_) <;> intro h <;> try (exfalso; first | omega | exact h rfl | (revert h; decide) | (cases h; done)))
     | ((with_reducible show False); omega)
     | ((first | (with_reducible first | refine r_exit ?_ | refine r_skip ?_ | refine r_cond ?_ | refine r_region ?_ | refine r_ret ?_ | show VX _ _ _ _ _ _ _ | show vstep _ _ _ _ _ | show vskip _ _ _ | show withV _ _) | ((with_reducible show endA _ _ _ _ _ _ _); simp -implicitDefEqProofs only [endA]) | (with_reducible first | refine pick_viewG default (by first | omega | (simp only [LN]; omega)) (by first | omega | (simp only [LN]; omega)) ?_ | refine pick_own default (by first | omega | (simp only [LN]; omega)) ?_ | refine And.intro (by first | decide | omega | assumption | (simp only [LN]; omega)) ?_) | ((with_reducible show pickE _ _ _); first | refine pickE_intro _ ⟨by omega, by rfl⟩ ?_ | refine pickE_intro _ (by rfl) ?_) | fail); try simp -dsimp -implicitDefEqProofs (maxSteps := 1000000) (disch := first | omega | (simp only [LN]; omega)) only [go_sem])
     | fail)
    refine r_shutM 21 (some .i64) es cl (.i .u64 (B.note 3)) hm rfl ?_
    simp -dsimp -implicitDefEqProofs (maxSteps := 1000000) (disch := first | omega | (simp only [LN]; omega)) only [go_sem]
    repeat' (first
     | (with_reducible first | refine r_seq ?_ | refine r_block ?_ | refine fork_not ?_ | refine fork_and ?_ | refine fork_or ?_ | refine chk_ok (by kernel_rfl) ?_)
     | ((with_reducible first | refine fork_dec ?_ ?_ | refine fork_eq ?_ ?_ | refine fork_ne ?_ ?_ | refine fork_intro ?_ ?_) <;> intro h <;> try (exfalso; first | omega | exact h rfl | (revert h; decide) | (cases h; done)))
     | ((with_reducible show False); omega)
     | ((first | (with_reducible first | refine r_exit ?_ | refine r_skip ?_ | refine r_cond ?_ | refine r_region ?_ | refine r_ret ?_ | show VX _ _ _ _ _ _ _ | show vstep _ _ _ _ _ | show vskip _ _ _ | show withV _ _) | ((with_reducible show endA _ _ _ _ _ _ _); simp -implicitDefEqProofs only [endA]) | (with_reducible first | refine pick_viewG default (by first | omega | (simp only [LN]; omega)) (by first | omega | (simp only [LN]; omega)) ?_ | refine pick_own default (by first | omega | (simp only [LN]; omega)) ?_ | refine And.intro (by first | decide | omega | assumption | (simp only [LN]; omega)) ?_) | ((with_reducible show pickE _ _ _); first | refine pickE_intro _ ⟨by omega, by rfl⟩ ?_ | refine pickE_intro _ (by rfl) ?_) | fail); try simp -dsimp -implicitDefEqProofs (maxSteps := 1000000) (disch := first | omega | (simp only [LN]; omega)) only [go_sem])
     | fail)
    (refine endX_i (⟨J2, by rw [hf]; exact hJ2⟩) ?_; simp -implicitDefEqProofs only [endA]; (simp -dsimp -implicitDefEqProofs (maxSteps := 1000000) (disch := first | omega | (simp only [LN, hf]; omega)) only [go_sem, hf]; try trivial))
    simp [jk, upd, fencS]
   ·intro e he
    obtain ⟨hmem, hns⟩ := left_mem he
    obtain ⟨r, v, hr, hke, hno, hva, hv0, hv1⟩ := entry_is hnB hm hmem
    have hnew := saw_new hm.st he hke
    have hDd : D.done r = B.done r := by rw [hD]; exact if_neg hnew
    have hDh : D.hist r = B.hist r := by rw [hD]; exact if_neg hnew
    have hlr := hB.len r (by omega)
    have hkf : kF B 3 r = (v - B.done r).toNat := by unfold kF; rw [hno]
    repeat' ((fail_if_success (with_reducible show awp _ _ (Code.region 3 _ _) _ _)); first
     | (with_reducible first | refine r_seq ?_ | refine r_block ?_ | refine fork_not ?_ | refine fork_and ?_ | refine fork_or ?_ | refine chk_ok (by kernel_rfl) ?_)
     | ((with_reducible first | refine fork_dec ?_ ?_ | refine fork_eq ?_ ?_ | refine fork_ne ?_ ?_ | refine fork_intro ?_ ?_) <;> intro h <;> try (exfalso; first | omega | exact h rfl | (revert h; decide) | (cases h; done)))
     | ((with_reducible show False); omega)
     | ((first | (with_reducible first | refine r_exit ?_ | refine r_skip ?_ | refine r_cond ?_ | refine r_region ?_ | refine r_ret ?_ | show VX _ _ _ _ _ _ _ | show vstep _ _ _ _ _ | show vskip _ _ _ | show withV _ _) | ((with_reducible show endA _ _ _ _ _ _ _); simp -implicitDefEqProofs only [endA]) | (with_reducible first | refine pick_viewG default (by first | omega | (simp only [LN, hke, hva]; omega)) (by first | omega | (simp only [LN, hke, hva]; omega)) ?_ | refine pick_own default (by first | omega | (simp only [LN, hke, hva]; omega)) ?_ | refine And.intro (by first | decide | omega | assumption | (simp only [LN, hke, hva]; omega)) ?_) | ((with_reducible show pickE _ _ _); first | refine pickE_intro _ ⟨by omega, by rfl⟩ ?_ | refine pickE_intro _ (by rfl) ?_) | fail); try simp -dsimp -implicitDefEqProofs (maxSteps := 1000000) (disch := first | omega | (simp only [LN, hke, hva]; omega)) only [go_sem, hke, hva])
     | fail)
    repeat' (first
     | (with_reducible first | refine r_seq ?_ | refine r_block ?_ | refine fork_not ?_ | refine fork_and ?_ | refine fork_or ?_ | refine chk_ok (by kernel_rfl) ?_)
     | ((with_reducible first | refine fork_dec ?_ ?_ | refine fork_eq ?_ ?_ | refine fork_ne ?_ ?_ | refine fork_intro ?_ ?_) <;> intro h <;> try (exfalso; first | omega | exact h rfl | (revert h; decide) | (cases h; done)))
     | ((with_reducible show False); omega)
     | ((first | (with_reducible first | refine r_exit ?_ | refine r_skip ?_ | refine r_cond ?_ | refine r_region ?_ | refine r_ret ?_ | show VX _ _ _ _ _ _ _ | show vstep _ _ _ _ _ | show vskip _ _ _ | show withV _ _) | ((with_reducible show endA _ _ _ _ _ _ _); simp -implicitDefEqProofs only [endA]) | (with_reducible first | refine pick_viewG default (by first | omega | (simp only [LN, hke, hva]; omega)) (by first | omega | (simp only [LN, hke, hva]; omega)) ?_ | refine pick_own default (by first | omega | (simp only [LN, hke, hva]; omega)) ?_ | refine And.intro (by first | decide | omega | assumption | (simp only [LN, hke, hva]; omega)) ?_) | ((with_reducible show pickE _ _ _); first | refine pickE_intro _ ⟨by omega, by rfl⟩ ?_ | refine pickE_intro _ (by rfl) ?_) | fail); try simp -dsimp -implicitDefEqProofs (maxSteps := 1000000) (disch := first | omega | (simp only [LN, hke, hva]; omega)) only [go_sem, hke, hva])
     | fail)
    refine pickE_intro e (by simp [hmem, hke, hva]; exact hst.2.1) ?_
    simp -dsimp -implicitDefEqProofs (maxSteps := 1000000) (disch := first | omega | (simp only [LN, hke, hva]; omega)) only [go_sem, hke, hva]
    repeat' ((fail_if_success (with_reducible show awp _ _ (Code.region 6 _ _) _ _)); first
     | (with_reducible first | refine r_seq ?_ | refine r_block ?_ | refine fork_not ?_ | refine fork_and ?_ | refine fork_or ?_ | refine chk_ok (by kernel_rfl) ?_)
     | ((with_reducible first | refine fork_dec ?_ ?_ | refine fork_eq ?_ ?_ | refine fork_ne ?_ ?_ | refine fork_intro ?_ ?_) <;> intro h <;> try (exfalso; first | omega | exact h rfl | (revert h; decide) | (cases h; done)))
     | ((with_reducible show False); omega)
     | ((first | (with_reducible first | refine r_exit ?_ | refine r_skip ?_ | refine r_cond ?_ | refine r_region ?_ | refine r_ret ?_ | show VX _ _ _ _ _ _ _ | show vstep _ _ _ _ _ | show vskip _ _ _ | show withV _ _) | ((with_reducible show endA _ _ _ _ _ _ _); simp -implicitDefEqProofs only [endA]) | (with_reducible first | refine pick_viewG default (by first | omega | (simp only [LN, hke, hva, hDd]; omega)) (by first | omega | (simp only [LN, hke, hva, hDd]; omega)) ?_ | refine pick_own default (by first | omega | (simp only [LN, hke, hva, hDd]; omega)) ?_ | refine And.intro (by first | decide | omega | assumption | (simp only [LN, hke, hva, hDd]; omega)) ?_) | ((with_reducible show pickE _ _ _); first | refine pickE_intro _ ⟨by omega, by rfl⟩ ?_ | refine pickE_intro _ (by rfl) ?_) | fail); try simp -dsimp -implicitDefEqProofs (maxSteps := 1000000) (disch := first | omega | (simp only [LN, hke, hva, hDd]; omega)) only [go_sem, hke, hva, hDd])
     | fail)
    ·have hgt : B.done r < v := by omega
     have hkle : kF B 3 r ≤ (D.hist r).length := by rw [hDh, hkf]; omega
     have e1 : IntKind.u64.wrap (v - B.done r) = ((kF B 3 r : Nat) : Int) := by rw [hkf, IntKind.wrap_u64]; omega
     have e2 : IntKind.i64.wrap ((kF B 3 r : Nat) : Int) = ((kF B 3 r : Nat) : Int) := by rw [hkf, IntKind.wrap_i64]; omega
     have kp := dPersist3 es cl D J2 hDw r (kF B 3 r) (by omega) hkle (by have := hJ2 r (by omega); rw [hDd] at this; omega)
     repeat' (first
      | (with_reducible first | refine r_seq ?_ | refine r_block ?_ | refine fork_not ?_ | refine fork_and ?_ | refine fork_or ?_ | refine chk_ok (by kernel_rfl) ?_)
      | ((with_reducible first | refine fork_dec ?_ ?_ | refine fork_eq ?_ ?_ | refine fork_ne ?_ ?_ | refine fork_intro ?_ ?_) <;> intro h <;> try (exfalso; first | omega | exact h rfl | (revert h; decide) | (cases h; done)))
      | ((with_reducible show False); omega)
      | ((first | (with_reducible first | refine r_exit ?_ | refine r_skip ?_ | refine r_cond ?_ | refine r_region ?_ | refine r_ret ?_ | show VX _ _ _ _ _ _ _ | show vstep _ _ _ _ _ | show vskip _ _ _ | show withV _ _) | ((with_reducible show endA _ _ _ _ _ _ _); simp -implicitDefEqProofs only [endA]) | (with_reducible first | refine pick_viewG default (by first | omega | (simp only [LN, hke, hva, e1, e2]; omega)) (by first | omega | (simp only [LN, hke, hva, e1, e2]; omega)) ?_ | refine pick_own default (by first | omega | (simp only [LN, hke, hva, e1, e2]; omega)) ?_ | refine And.intro (by first | decide | omega | assumption | (simp only [LN, hke, hva, e1, e2]; omega)) ?_) | (with_reducible first | apply callK_lent | apply callF_lent | apply hideP_own) | ((with_reducible apply callA_go); (first | exact kp | fail)) | ((with_reducible show pickE _ _ _); first | refine pickE_intro _ ⟨by omega, by rfl⟩ ?_ | refine pickE_intro _ (by rfl) ?_) | fail); try simp -dsimp -implicitDefEqProofs (maxSteps := 1000000) (disch := first | omega | (simp only [LN, hke, hva, e1, e2]; omega)) only [go_sem, hke, hva, e1, e2])
      | fail)
     refine loopQ_next (seen.push e.born, D.persist r (kF B 3 r), jper D J2 r (kF B 3 r)) ⟨?_, ?_⟩ (left_lt he) ?_
     ·show D.persist r (kF B 3 r) = _
      rw [hD]; exact fencS_step hB hnB hr hnew (saw_push hm.st he hke)
     ·exact hJ2.persist (fun i hi => (hDw.len i hi).1) r _ hkle
     ·simp -dsimp -implicitDefEqProofs (maxSteps := 1000000) (disch := first | omega | (simp only [LN]; omega)) only [go_sem]
    ·have hkz : kF B 3 r = 0 := by rw [hkf]; omega
     have hst2 := fencS_step hB hnB hr hnew (saw_push hm.st he hke)
     rw [hkz, persist_0] at hst2
     refine loopQ_next (seen.push e.born, D, J2) ⟨hD.trans hst2, hJ2⟩ (left_lt he) ?_
     simp -dsimp -implicitDefEqProofs (maxSteps := 1000000) (disch := first | omega | (simp only [LN]; omega)) only [go_sem]
 ·simp only [Bool.not_eq_true] at hc
  rw [hc] at kc
  have hf : A.fence 3 = A.cnt 3 true := by unfold Dv.fence; rw [hc]; rfl
  have hjB : JOk (A.cnt 3 true) J := by intro r hr; rw [jk_cnt, (cnt_p A 3 true).2.2.2.2.1]; exact hj r hr
  repeat' (first
   | (with_reducible first | refine r_seq ?_ | refine r_block ?_ | refine fork_not ?_ | refine fork_and ?_ | refine fork_or ?_ | refine chk_ok (by kernel_rfl) ?_)
   | ((with_reducible first | refine fork_dec ?_ ?_ | refine fork_eq ?_ ?_ | refine fork_ne ?_ ?_ | refine fork_intro ?_ ?_) <;> intro h <;> try (exfalso; first | omega | exact h rfl | (revert h; decide) | (cases h; done)))
   | ((with_reducible show False); omega)
   | ((first | (with_reducible first | refine r_exit ?_ | refine r_skip ?_ | refine r_cond ?_ | refine r_region ?_ | refine r_ret ?_ | show VX _ _ _ _ _ _ _ | show vstep _ _ _ _ _ | show vskip _ _ _ | show withV _ _) | ((with_reducible show endA _ _ _ _ _ _ _); simp -implicitDefEqProofs only [endA]) | (with_reducible first | refine pick_viewG default (by first | omega | (simp only [LN]; omega)) (by first | omega | (simp only [LN]; omega)) ?_ | refine pick_own default (by first | omega | (simp only [LN]; omega)) ?_ | refine And.intro (by first | decide | omega | assumption | (simp only [LN]; omega)) ?_) | (with_reducible first | apply callK_lent | apply callF_lent | apply hideP_own) | ((with_reducible apply callA_go); (first | exact kc | fail)) | ((with_reducible show pickE _ _ _); first | refine pickE_intro _ ⟨by omega, by rfl⟩ ?_ | refine pickE_intro _ (by rfl) ?_) | fail); try simp -dsimp -implicitDefEqProofs (maxSteps := 1000000) (disch := first | omega | (simp only [LN]; omega)) only [go_sem])
   | fail)
  (refine endX_i (⟨J, by rw [hf]; exact hjB⟩) ?_; simp -implicitDefEqProofs only [endA]; (simp -dsimp -implicitDefEqProofs (maxSteps := 1000000) (disch := first | omega | (simp only [LN, hf]; omega)) only [go_sem, hf]; try trivial))
end Go.Proofs.YtckhjklcfagkoaaGreatDoor