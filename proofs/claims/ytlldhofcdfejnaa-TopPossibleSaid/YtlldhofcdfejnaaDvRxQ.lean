/- Contracts of functions of this program, and the plain facts that they rest on. No conditions. -/
import Derived.Test.YtlldhofcdfejnaaDvR0Q
import Derived.Test.YtlldhofcdfejnaaDvDQ
set_option linter.unusedSimpArgs false
set_option linter.unusedVariables false
namespace Go.Proofs.Ytlldhofcdfejnaa
open Go Go.Ab
attribute [local irreducible] callK callF loopQ vstep vskip pickE hideP
set_option maxRecDepth 100000
def nmO (D : Dv) (es : Array MapEntry) (cl q i : Nat) : Ob := match Nat.beq i q with
 | true => .mpx (some .i64) es cl
 | false => noO D i
attribute [local go_sem] deO peO cuO liO thO hiO noO nmO
set_option maxRecDepth 100000 in
set_option maxHeartbeats 4000000 in
theorem tFence (A : Dv) (J : Nat → List (Int × Int)) (k : Nat) (hk : k < 8) (h : WF A) (hn : NoteOk A k) (hj : JOk A J) : ACallsX Try.prog 16 [.loc (4 + k) 0] [deO A 1 2 3 4, peO A, cuO A, liO A J 12, thO A 0 0 18, thO A 1 0 18, thO A 2 0 18, thO A 3 0 18, thO A 4 0 18, thO A 5 0 18, thO A 6 0 18, thO A 7 0 18, hiO A J 0, hiO A J 1, hiO A J 2, hiO A J 3, hiO A J 4, hiO A J 5, noO A 0, noO A 1, noO A 2, noO A 3, noO A 4, noO A 5, noO A 6, noO A 7] (fun J2 : { J2 : Nat → List (Int × Int) // JOk (A.fence k) J2 } => .p (.tup [])) (fun J2 : { J2 : Nat → List (Int × Int) // JOk (A.fence k) J2 } => [deO (A.fence k) 1 2 3 4, peO (A.fence k), cuO (A.fence k), liO (A.fence k) J2.1 26, thO (A.fence k) 0 0 18, thO (A.fence k) 1 0 18, thO (A.fence k) 2 0 18, thO (A.fence k) 3 0 18, thO (A.fence k) 4 0 18, thO (A.fence k) 5 0 18, thO (A.fence k) 6 0 18, thO (A.fence k) 7 0 18, .dead, .dead, .dead, .dead, .dead, .dead, noO (A.fence k) 0, noO (A.fence k) 1, noO (A.fence k) 2, noO (A.fence k) 3, noO (A.fence k) 4, noO (A.fence k) 5, noO (A.fence k) 6, noO (A.fence k) 7, hiO (A.fence k) J2.1 0, hiO (A.fence k) J2.1 1, hiO (A.fence k) J2.1 2, hiO (A.fence k) J2.1 3, hiO (A.fence k) J2.1 4, hiO (A.fence k) J2.1 5]) := by
 refine acallsx_of (E := E) (fn := Try.f16) 57 [] rfl rfl rfl rfl (by decide) rfl (fun _ => rfl) ?_
 have kc := tCnt A J k hk true
 by_cases hc : A.cntB true = true
 ·rw [hc] at kc
  have hB := h.cnt k true
  have hnB := hn.cnt k true
  have hjB : JOk (A.cnt k true) J := by intro r hr; rw [jk_cnt, (cnt_p A k true).2.2.2.2.1]; exact hj r hr
  have hf : A.fence k = { fencS (A.cnt k true) k (fun _ => True) with note := upd (A.cnt k true).note k (fun _ => none) } := if_pos hc
  generalize A.cnt k true = B at *
  obtain ⟨q, hq⟩ : ∃ q : Nat, q = k := ⟨_, rfl⟩
  rw [← hq] at hnB
  rcases lt8 hk with rfl | rfl | rfl | rfl | rfl | rfl | rfl | rfl
  all_goals
   repeat' ((fail_if_success (with_reducible show awp _ _ (Code.region 1 _ _) _ _)); first
    | (with_reducible first | refine r_seq ?_ | refine r_block ?_ | refine fork_not ?_ | refine fork_and ?_ | refine fork_or ?_ | refine chk_ok (by kernel_rfl) ?_)
    | ((with_reducible first | refine fork_dec ?_ ?_ | refine fork_eq ?_ ?_ | refine fork_ne ?_ ?_ | refine fork_intro ?_ ?_) <;> intro h <;> try (exfalso; first | omega | exact h rfl | (revert h; decide) | (cases h; done)))
    | ((with_reducible show False); omega)
    | ((first | (with_reducible first | refine r_exit ?_ | refine r_skip ?_ | refine r_cond ?_ | refine r_region ?_ | refine r_ret ?_ | show VX _ _ _ _ _ _ _ | show vstep _ _ _ _ _ | show vskip _ _ _ | show withV _ _) | ((with_reducible show endA _ _ _ _ _ _ _); simp -implicitDefEqProofs only [endA]) | (with_reducible first | refine pick_viewG default (by first | omega | (simp only [LN, hq]; omega)) (by first | omega | (simp only [LN, hq]; omega)) ?_ | refine pick_own default (by first | omega | (simp only [LN, hq]; omega)) ?_ | refine And.intro (by first | decide | omega | assumption | (simp only [LN, hq]; omega)) ?_) | (with_reducible first | apply callK_lent | apply callF_lent | apply hideP_own) | ((with_reducible apply callA_go); (first | exact kc | fail)) | ((with_reducible show pickE _ _ _); first | refine pickE_intro _ ⟨by omega, by rfl⟩ ?_ | refine pickE_intro _ (by rfl) ?_) | fail); try simp -dsimp -implicitDefEqProofs (maxSteps := 1000000) (disch := first | omega | (simp only [LN, hq]; omega)) only [go_sem, hq])
    | fail)
   refine r_openM (18 + q) (some .i64) (.i .u64 (B.note q)) (by subst hq; rfl) fun es cl hm => ?_
   simp -dsimp -implicitDefEqProofs (maxSteps := 1000000) (disch := first | omega | (simp only [LN, hq]; omega)) only [go_sem, hq]
   repeat' ((fail_if_success (with_reducible show awp _ _ (Code.region 2 _ _) _ _)); first
    | (with_reducible first | refine r_seq ?_ | refine r_block ?_ | refine fork_not ?_ | refine fork_and ?_ | refine fork_or ?_ | refine chk_ok (by kernel_rfl) ?_)
    | ((with_reducible first | refine fork_dec ?_ ?_ | refine fork_eq ?_ ?_ | refine fork_ne ?_ ?_ | refine fork_intro ?_ ?_) <;> intro h <;> try (exfalso; first | omega | exact h rfl | (revert h; decide) | (cases h; done)))
    | ((with_reducible show False); omega)
    | ((first | (with_reducible first | refine r_exit ?_ | refine r_skip ?_ | refine r_cond ?_ | refine r_region ?_ | refine r_ret ?_ | show VX _ _ _ _ _ _ _ | show vstep _ _ _ _ _ | show vskip _ _ _ | show withV _ _) | ((with_reducible show endA _ _ _ _ _ _ _); simp -implicitDefEqProofs only [endA]) | (with_reducible first | refine pick_viewG default (by first | omega | (simp only [LN, hq]; omega)) (by first | omega | (simp only [LN, hq]; omega)) ?_ | refine pick_own default (by first | omega | (simp only [LN, hq]; omega)) ?_ | refine And.intro (by first | decide | omega | assumption | (simp only [LN, hq]; omega)) ?_) | ((with_reducible show pickE _ _ _); first | refine pickE_intro _ ⟨by omega, by rfl⟩ ?_ | refine pickE_intro _ (by rfl) ?_) | fail); try simp -dsimp -implicitDefEqProofs (maxSteps := 1000000) (disch := first | omega | (simp only [LN, hq]; omega)) only [go_sem, hq])
    | fail)
   have hst := (MapKept.stamped_iff es cl).1 hm.st
   refine r_loop (α := Array Nat × Dv × (Nat → List (Int × Int))) (fun x => ⟨57, [(0, some (.loc (4 + q) 0)), (23, some (.loc 26 0))], [some (deO x.2.1 1 2 3 4), some (peO x.2.1), some (cuO x.2.1), some (liO x.2.1 x.2.2 27), some (thO x.2.1 0 0 18), some (thO x.2.1 1 0 18), some (thO x.2.1 2 0 18), some (thO x.2.1 3 0 18), some (thO x.2.1 4 0 18), some (thO x.2.1 5 0 18), some (thO x.2.1 6 0 18), some (thO x.2.1 7 0 18), some (Ob.dead), some (Ob.dead), some (Ob.dead), some (Ob.dead), some (Ob.dead), some (Ob.dead), some (nmO x.2.1 es cl q 0), some (nmO x.2.1 es cl q 1), some (nmO x.2.1 es cl q 2), some (nmO x.2.1 es cl q 3), some (nmO x.2.1 es cl q 4), some (nmO x.2.1 es cl q 5), some (nmO x.2.1 es cl q 6), some (nmO x.2.1 es cl q 7), some (Ob.it (.mref (18 + q)) cl x.1 cl), some (hiO x.2.1 x.2.2 0), some (hiO x.2.1 x.2.2 1), some (hiO x.2.1 x.2.2 2), some (hiO x.2.1 x.2.2 3), some (hiO x.2.1 x.2.2 4), some (hiO x.2.1 x.2.2 5)]⟩) (fun x => x.2.1 = fencS B q (Saw es x.1) ∧ JOk x.2.1 x.2.2) (fun x => (leftOf es x.1).size) (#[], B, J) ?_ ?_ ?_
   ·refine ⟨(fencS_none hB ?_ ?_).symm, hjB⟩
    ·rintro r _ ⟨e, _, _, hs⟩; simp at hs
    ·rintro r _ ⟨e, _, _, hs⟩; simp at hs
   ·refine wk_auto ?_
    simp -dsimp -implicitDefEqProofs (maxSteps := 1000000) (disch := first | omega | (simp only [LN, hq]; omega)) only [go_sem, hq]
   ·rintro ⟨seen, D, J2⟩ ⟨hD, hJ2⟩
    simp only at hD hJ2
    simp -dsimp -implicitDefEqProofs (maxSteps := 1000000) (disch := first | omega | (simp only [LN, hq]; omega)) only [go_sem, hq]
    repeat' ((fail_if_success (with_reducible show awp _ _ (Code.region 2 _ _) _ _)); first
     | (with_reducible first | refine r_seq ?_ | refine r_block ?_ | refine fork_not ?_ | refine fork_and ?_ | refine fork_or ?_ | refine chk_ok (by kernel_rfl) ?_)
     | ((with_reducible first | refine fork_dec ?_ ?_ | refine fork_eq ?_ ?_ | refine fork_ne ?_ ?_ | refine fork_intro ?_ ?_) <;> intro h <;> try (exfalso; first | omega | exact h rfl | (revert h; decide) | (cases h; done)))
     | ((with_reducible show False); omega)
     | ((first | (with_reducible first | refine r_exit ?_ | refine r_skip ?_ | refine r_cond ?_ | refine r_region ?_ | refine r_ret ?_ | show VX _ _ _ _ _ _ _ | show vstep _ _ _ _ _ | show vskip _ _ _ | show withV _ _) | ((with_reducible show endA _ _ _ _ _ _ _); simp -implicitDefEqProofs only [endA]) | (with_reducible first | refine pick_viewG default (by first | omega | (simp only [LN, hq]; omega)) (by first | omega | (simp only [LN, hq]; omega)) ?_ | refine pick_own default (by first | omega | (simp only [LN, hq]; omega)) ?_ | refine And.intro (by first | decide | omega | assumption | (simp only [LN, hq]; omega)) ?_) | ((with_reducible show pickE _ _ _); first | refine pickE_intro _ ⟨by omega, by rfl⟩ ?_ | refine pickE_intro _ (by rfl) ?_) | fail); try simp -dsimp -implicitDefEqProofs (maxSteps := 1000000) (disch := first | omega | (simp only [LN, hq]; omega)) only [go_sem, hq])
     | fail)
    have hDw : WF D := hD ▸ wf_fencS hB hnB _
    have hDn : D.n = B.n := by rw [hD]; rfl
    have h6 := hB.n6
    refine r_next (it := 23) (t := 24) (k := 26) (m := 18 + q) (since := cl) (last := cl) (cl := cl) (seen := seen) (kk := some .i64) (es := es) (by subst hq; rfl) (by subst hq; rfl) (by subst hq; rfl) (by show 24 < 57; decide) (by subst hq; rfl) (by subst hq; rfl) (by subst hq; rfl) hst.1 (Nat.le_refl _) ?_ ?_ ?_
    ·intro e he
     obtain ⟨r, v, _, e1, _, e2, _⟩ := entry_is hnB hm he
     rw [e1, e2]; exact ⟨rfl, rfl⟩
    ·intro h0
     have hDa : D = fencS B q (fun _ => True) := hD.trans (fencS_all (fun r hr => (hB.len r hr).1) h6 hnB hm h0)
     subst hDa
     repeat' ((fail_if_success (with_reducible show awp _ _ (Code.region 7 _ _) _ _)); first
      | (with_reducible first | refine r_seq ?_ | refine r_block ?_ | refine fork_not ?_ | refine fork_and ?_ | refine fork_or ?_ | refine chk_ok (by kernel_rfl) ?_)
      | ((with_reducible first | refine fork_dec ?_ ?_ | refine fork_eq ?_ ?_ | refine fork_ne ?_ ?_ | refine fork_intro ?_ ?_) <;> intro h <;> try (exfalso; first | omega | exact h rfl | (revert h; decide) | (cases h; done)))
      | ((with_reducible show False); omega)
      | ((first | (with_reducible first | refine r_exit ?_ | refine r_skip ?_ | refine r_cond ?_ | refine r_region ?_ | refine r_ret ?_ | show VX _ _ _ _ _ _ _ | show vstep _ _ _ _ _ | show vskip _ _ _ | show withV _ _) | ((with_reducible show endA _ _ _ _ _ _ _); simp -implicitDefEqProofs only [endA]) | (with_reducible first | refine pick_viewG default (by first | omega | (simp only [LN, hq]; omega)) (by first | omega | (simp only [LN, hq]; omega)) ?_ | refine pick_own default (by first | omega | (simp only [LN, hq]; omega)) ?_ | refine And.intro (by first | decide | omega | assumption | (simp only [LN, hq]; omega)) ?_) | ((with_reducible show pickE _ _ _); first | refine pickE_intro _ ⟨by omega, by rfl⟩ ?_ | refine pickE_intro _ (by rfl) ?_) | fail); try simp -dsimp -implicitDefEqProofs (maxSteps := 1000000) (disch := first | omega | (simp only [LN, hq]; omega)) only [go_sem, hq])
      | fail)
     refine r_shutM (18 + q) (some .i64) es cl (.i .u64 (B.note q)) hm (by subst hq; rfl) ?_
     simp -dsimp -implicitDefEqProofs (maxSteps := 1000000) (disch := first | omega | (simp only [LN, hq]; omega)) only [go_sem, hq]
     repeat' (first
      | (with_reducible first | refine r_seq ?_ | refine r_block ?_ | refine fork_not ?_ | refine fork_and ?_ | refine fork_or ?_ | refine chk_ok (by kernel_rfl) ?_)
      | ((with_reducible first | refine fork_dec ?_ ?_ | refine fork_eq ?_ ?_ | refine fork_ne ?_ ?_ | refine fork_intro ?_ ?_) <;> intro h <;> try (exfalso; first | omega | exact h rfl | (revert h; decide) | (cases h; done)))
      | ((with_reducible show False); omega)
      | ((first | (with_reducible first | refine r_exit ?_ | refine r_skip ?_ | refine r_cond ?_ | refine r_region ?_ | refine r_ret ?_ | show VX _ _ _ _ _ _ _ | show vstep _ _ _ _ _ | show vskip _ _ _ | show withV _ _) | ((with_reducible show endA _ _ _ _ _ _ _); simp -implicitDefEqProofs only [endA]) | (with_reducible first | refine pick_viewG default (by first | omega | (simp only [LN, hq]; omega)) (by first | omega | (simp only [LN, hq]; omega)) ?_ | refine pick_own default (by first | omega | (simp only [LN, hq]; omega)) ?_ | refine And.intro (by first | decide | omega | assumption | (simp only [LN, hq]; omega)) ?_) | ((with_reducible show pickE _ _ _); first | refine pickE_intro _ ⟨by omega, by rfl⟩ ?_ | refine pickE_intro _ (by rfl) ?_) | fail); try simp -dsimp -implicitDefEqProofs (maxSteps := 1000000) (disch := first | omega | (simp only [LN, hq]; omega)) only [go_sem, hq])
      | fail)
     (refine endX_i (⟨J2, by subst hq; rw [hf]; exact hJ2⟩) ?_; simp -implicitDefEqProofs only [endA]; (simp -dsimp -implicitDefEqProofs (maxSteps := 1000000) (disch := first | omega | (simp only [LN, hf, hq]; omega)) only [go_sem, hf, hq]; try trivial))
     simp [jk, upd, fencS, hq]
    ·intro e he
     obtain ⟨hmem, hns⟩ := left_mem he
     obtain ⟨r, v, hr, hke, hno, hva, hv0, hv1⟩ := entry_is hnB hm hmem
     have hnew := saw_new hm.st he hke
     have hDd : D.done r = B.done r := by rw [hD]; exact if_neg hnew
     have hDh : D.hist r = B.hist r := by rw [hD]; exact if_neg hnew
     have hlr := hB.len r (by omega)
     obtain ⟨κ, hκ⟩ : ∃ κ, κ = kF B q r := ⟨_, rfl⟩
     have hkf : κ = (v - B.done r).toNat := by rw [hκ]; unfold kF; rw [hno]
     repeat' ((fail_if_success (with_reducible show awp _ _ (Code.region 3 _ _) _ _)); first
      | (with_reducible first | refine r_seq ?_ | refine r_block ?_ | refine fork_not ?_ | refine fork_and ?_ | refine fork_or ?_ | refine chk_ok (by kernel_rfl) ?_)
      | ((with_reducible first | refine fork_dec ?_ ?_ | refine fork_eq ?_ ?_ | refine fork_ne ?_ ?_ | refine fork_intro ?_ ?_) <;> intro h <;> try (exfalso; first | omega | exact h rfl | (revert h; decide) | (cases h; done)))
      | ((with_reducible show False); omega)
      | ((first | (with_reducible first | refine r_exit ?_ | refine r_skip ?_ | refine r_cond ?_ | refine r_region ?_ | refine r_ret ?_ | show VX _ _ _ _ _ _ _ | show vstep _ _ _ _ _ | show vskip _ _ _ | show withV _ _) | ((with_reducible show endA _ _ _ _ _ _ _); simp -implicitDefEqProofs only [endA]) | (with_reducible first | refine pick_viewG default (by first | omega | (simp only [LN, hq, hke, hva]; omega)) (by first | omega | (simp only [LN, hq, hke, hva]; omega)) ?_ | refine pick_own default (by first | omega | (simp only [LN, hq, hke, hva]; omega)) ?_ | refine And.intro (by first | decide | omega | assumption | (simp only [LN, hq, hke, hva]; omega)) ?_) | ((with_reducible show pickE _ _ _); first | refine pickE_intro _ ⟨by omega, by rfl⟩ ?_ | refine pickE_intro _ (by rfl) ?_) | fail); try simp -dsimp -implicitDefEqProofs (maxSteps := 1000000) (disch := first | omega | (simp only [LN, hq, hke, hva]; omega)) only [go_sem, hq, hke, hva])
      | fail)
     repeat' (first
      | (with_reducible first | refine r_seq ?_ | refine r_block ?_ | refine fork_not ?_ | refine fork_and ?_ | refine fork_or ?_ | refine chk_ok (by kernel_rfl) ?_)
      | ((with_reducible first | refine fork_dec ?_ ?_ | refine fork_eq ?_ ?_ | refine fork_ne ?_ ?_ | refine fork_intro ?_ ?_) <;> intro h <;> try (exfalso; first | omega | exact h rfl | (revert h; decide) | (cases h; done)))
      | ((with_reducible show False); omega)
      | ((first | (with_reducible first | refine r_exit ?_ | refine r_skip ?_ | refine r_cond ?_ | refine r_region ?_ | refine r_ret ?_ | show VX _ _ _ _ _ _ _ | show vstep _ _ _ _ _ | show vskip _ _ _ | show withV _ _) | ((with_reducible show endA _ _ _ _ _ _ _); simp -implicitDefEqProofs only [endA]) | (with_reducible first | refine pick_viewG default (by first | omega | (simp only [LN, hq, hke, hva]; omega)) (by first | omega | (simp only [LN, hq, hke, hva]; omega)) ?_ | refine pick_own default (by first | omega | (simp only [LN, hq, hke, hva]; omega)) ?_ | refine And.intro (by first | decide | omega | assumption | (simp only [LN, hq, hke, hva]; omega)) ?_) | ((with_reducible show pickE _ _ _); first | refine pickE_intro _ ⟨by omega, by rfl⟩ ?_ | refine pickE_intro _ (by rfl) ?_) | fail); try simp -dsimp -implicitDefEqProofs (maxSteps := 1000000) (disch := first | omega | (simp only [LN, hq, hke, hva]; omega)) only [go_sem, hq, hke, hva])
      | fail)
     refine pickE_intro e (by simp [hmem, hke, hva]; exact hst.2.1) ?_
     simp -dsimp -implicitDefEqProofs (maxSteps := 1000000) (disch := first | omega | (simp only [LN, hq, hke, hva]; omega)) only [go_sem, hq, hke, hva]
     repeat' ((fail_if_success (with_reducible show awp _ _ (Code.region 6 _ _) _ _)); first
      | (with_reducible first | refine r_seq ?_ | refine r_block ?_ | refine fork_not ?_ | refine fork_and ?_ | refine fork_or ?_ | refine chk_ok (by kernel_rfl) ?_)
      | ((with_reducible first | refine fork_dec ?_ ?_ | refine fork_eq ?_ ?_ | refine fork_ne ?_ ?_ | refine fork_intro ?_ ?_) <;> intro h <;> try (exfalso; first | omega | exact h rfl | (revert h; decide) | (cases h; done)))
      | ((with_reducible show False); omega)
      | ((first | (with_reducible first | refine r_exit ?_ | refine r_skip ?_ | refine r_cond ?_ | refine r_region ?_ | refine r_ret ?_ | show VX _ _ _ _ _ _ _ | show vstep _ _ _ _ _ | show vskip _ _ _ | show withV _ _) | ((with_reducible show endA _ _ _ _ _ _ _); simp -implicitDefEqProofs only [endA]) | (with_reducible first | refine pick_viewG default (by first | omega | (simp only [LN, hq, hke, hva, hDd]; omega)) (by first | omega | (simp only [LN, hq, hke, hva, hDd]; omega)) ?_ | refine pick_own default (by first | omega | (simp only [LN, hq, hke, hva, hDd]; omega)) ?_ | refine And.intro (by first | decide | omega | assumption | (simp only [LN, hq, hke, hva, hDd]; omega)) ?_) | ((with_reducible show pickE _ _ _); first | refine pickE_intro _ ⟨by omega, by rfl⟩ ?_ | refine pickE_intro _ (by rfl) ?_) | fail); try simp -dsimp -implicitDefEqProofs (maxSteps := 1000000) (disch := first | omega | (simp only [LN, hq, hke, hva, hDd]; omega)) only [go_sem, hq, hke, hva, hDd])
      | fail)
     ·have hgt : B.done r < v := by omega
      have hkle : κ ≤ (D.hist r).length := by rw [hDh, hkf]; omega
      have e1 : IntKind.u64.wrap (v - B.done r) = ((κ : Nat) : Int) := by rw [hkf, IntKind.wrap_u64]; omega
      have e2 : IntKind.i64.wrap ((κ : Nat) : Int) = ((κ : Nat) : Int) := by rw [hkf, IntKind.wrap_i64]; omega
      have hjl : (jk D J2 r).length ≤ 1000000000 := by have := hJ2 r (by omega); rw [hDd] at this; omega
      have hrn : r < D.n := by omega
      repeat' (first
       | (with_reducible first | refine r_seq ?_ | refine r_block ?_ | refine fork_not ?_ | refine fork_and ?_ | refine fork_or ?_ | refine chk_ok (by kernel_rfl) ?_)
       | ((with_reducible first | refine fork_dec ?_ ?_ | refine fork_eq ?_ ?_ | refine fork_ne ?_ ?_ | refine fork_intro ?_ ?_) <;> intro h <;> try (exfalso; first | omega | exact h rfl | (revert h; decide) | (cases h; done)))
       | ((with_reducible show False); omega)
       | ((first | (with_reducible first | refine r_exit ?_ | refine r_skip ?_ | refine r_cond ?_ | refine r_region ?_ | refine r_ret ?_ | show VX _ _ _ _ _ _ _ | show vstep _ _ _ _ _ | show vskip _ _ _ | show withV _ _) | ((with_reducible show endA _ _ _ _ _ _ _); simp -implicitDefEqProofs only [endA]) | (with_reducible first | refine pick_viewG default (by first | omega | (simp only [LN, hq, hke, hva, e1, e2]; omega)) (by first | omega | (simp only [LN, hq, hke, hva, e1, e2]; omega)) ?_ | refine pick_own default (by first | omega | (simp only [LN, hq, hke, hva, e1, e2]; omega)) ?_ | refine And.intro (by first | decide | omega | assumption | (simp only [LN, hq, hke, hva, e1, e2]; omega)) ?_) | (with_reducible first | apply callK_lent | apply callF_lent | apply hideP_own) | ((with_reducible apply callA_go); (first | exact dPersist0 es cl D J2 hDw r (κ) hrn hkle hjl | exact dPersist1 es cl D J2 hDw r (κ) hrn hkle hjl | exact dPersist2 es cl D J2 hDw r (κ) hrn hkle hjl | exact dPersist3 es cl D J2 hDw r (κ) hrn hkle hjl | exact dPersist4 es cl D J2 hDw r (κ) hrn hkle hjl | exact dPersist5 es cl D J2 hDw r (κ) hrn hkle hjl | exact dPersist6 es cl D J2 hDw r (κ) hrn hkle hjl | exact dPersist7 es cl D J2 hDw r (κ) hrn hkle hjl | fail)) | ((with_reducible show pickE _ _ _); first | refine pickE_intro _ ⟨by omega, by rfl⟩ ?_ | refine pickE_intro _ (by rfl) ?_) | fail); try simp -dsimp -implicitDefEqProofs (maxSteps := 1000000) (disch := first | omega | (simp only [LN, hq, hke, hva, e1, e2]; omega)) only [go_sem, hq, hke, hva, e1, e2])
       | fail)
      refine loopQ_next (seen.push e.born, D.persist r (κ), jper D J2 r (κ)) (And.intro ?_ ?_) (left_lt he) ?_
      ·subst hq
       show D.persist r κ = _
       rw [hD, hκ]; exact fencS_step hB hnB hr hnew (saw_push hm.st he hke)
      ·exact hJ2.persist (fun i hi => (hDw.len i hi).1) r _ hkle
      ·simp -dsimp -implicitDefEqProofs (maxSteps := 1000000) (disch := first | omega | (simp only [LN, hq]; omega)) only [go_sem, hq]
     ·have hkz : κ = 0 := by rw [hkf]; omega
      have hst2 := fencS_step hB hnB hr hnew (saw_push hm.st he hke)
      rw [← hκ, hkz, persist_0] at hst2
      refine loopQ_next (seen.push e.born, D, J2) ⟨by subst hq; exact hD.trans hst2, hJ2⟩ (left_lt he) ?_
      simp -dsimp -implicitDefEqProofs (maxSteps := 1000000) (disch := first | omega | (simp only [LN, hq]; omega)) only [go_sem, hq]
 ·simp only [Bool.not_eq_true] at hc
  rw [hc] at kc
  have hf : A.fence k = A.cnt k true := by unfold Dv.fence; rw [hc]; rfl
  have hjB : JOk (A.cnt k true) J := by intro r hr; rw [jk_cnt, (cnt_p A k true).2.2.2.2.1]; exact hj r hr
  repeat' (first
   | (with_reducible first | refine r_seq ?_ | refine r_block ?_ | refine fork_not ?_ | refine fork_and ?_ | refine fork_or ?_ | refine chk_ok (by kernel_rfl) ?_)
   | ((with_reducible first | refine fork_dec ?_ ?_ | refine fork_eq ?_ ?_ | refine fork_ne ?_ ?_ | refine fork_intro ?_ ?_) <;> intro h <;> try (exfalso; first | omega | exact h rfl | (revert h; decide) | (cases h; done)))
   | ((with_reducible show False); omega)
   | ((first | (with_reducible first | refine r_exit ?_ | refine r_skip ?_ | refine r_cond ?_ | refine r_region ?_ | refine r_ret ?_ | show VX _ _ _ _ _ _ _ | show vstep _ _ _ _ _ | show vskip _ _ _ | show withV _ _) | ((with_reducible show endA _ _ _ _ _ _ _); simp -implicitDefEqProofs only [endA]) | (with_reducible first | refine pick_viewG default (by first | omega | (simp only [LN]; omega)) (by first | omega | (simp only [LN]; omega)) ?_ | refine pick_own default (by first | omega | (simp only [LN]; omega)) ?_ | refine And.intro (by first | decide | omega | assumption | (simp only [LN]; omega)) ?_) | (with_reducible first | apply callK_lent | apply callF_lent | apply hideP_own) | ((with_reducible apply callA_go); (first | exact kc | fail)) | ((with_reducible show pickE _ _ _); first | refine pickE_intro _ ⟨by omega, by rfl⟩ ?_ | refine pickE_intro _ (by rfl) ?_) | fail); try simp -dsimp -implicitDefEqProofs (maxSteps := 1000000) (disch := first | omega | (simp only [LN]; omega)) only [go_sem])
   | fail)
  (refine endX_i (⟨J, by rw [hf]; exact hjB⟩) ?_; simp -implicitDefEqProofs only [endA]; (simp -dsimp -implicitDefEqProofs (maxSteps := 1000000) (disch := first | omega | (simp only [LN, hf]; omega)) only [go_sem, hf]; try trivial))
end Go.Proofs.Ytlldhofcdfejnaa