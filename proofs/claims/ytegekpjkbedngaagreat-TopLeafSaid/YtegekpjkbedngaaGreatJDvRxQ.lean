/- Contracts of functions of this program, and the plain facts that they rest on. No conditions. -/
import Derived.Test.YtegekpjkbedngaaGreatJDvQQ
import Derived.Test.YtegekpjkbedngaaGreatJDvAQ
import Derived.Test.YtegekpjkbedngaaGreatJLfBQ
import Derived.Test.YtegekpjkbedngaaGreatJDvFQ
set_option linter.unusedSectionVars false
set_option linter.unusedSimpArgs false
set_option linter.unusedVariables false
namespace Go.Proofs.YtegekpjkbedngaaGreat
set_option maxHeartbeats 4000000
set_option maxRecDepth 100000
open Go Go.Ab
attribute [local irreducible] callK callF loopQ vstep vskip pickE hideP
def nmO (D : Dv) (es : Array MapEntry) (cl q i : Nat) : Ob := match Nat.beq i q with
 | true => .mpx (some .i64) es cl
 | false => noO D i
attribute [local go_sem] deO peO cuO liO thO hiO noO nmO
theorem tFence (A : Dv) (J : JT) (k : Nat) (hk : k < 8) (hk0 : k = 0) (h : WF A) (hn : NoteOk A k) (hj : JOk A J) : ACallsX Tryz.prog 108 [.loc (4 + k) 0] [deO A 1 2 3 4, peO A, cuO A, liO A J 12, thO A 0 0 20, thO A 1 0 20, thO A 2 0 20, thO A 3 0 20, thO A 4 0 20, thO A 5 0 20, thO A 6 0 20, thO A 7 0 20, hiO A J 0, hiO A J 1, hiO A J 2, hiO A J 3, hiO A J 4, hiO A J 5, hiO A J 6, hiO A J 7, noO A 0, noO A 1, noO A 2, noO A 3, noO A 4, noO A 5, noO A 6, noO A 7] (fun J2 : { J2 : JT // JOk (A.fence k) J2 } => .p (.tup [])) (fun J2 : { J2 : JT // JOk (A.fence k) J2 } => [deO (A.fence k) 1 2 3 4, peO (A.fence k), cuO (A.fence k), liO (A.fence k) J2.1 28, thO (A.fence k) 0 0 20, thO (A.fence k) 1 0 20, thO (A.fence k) 2 0 20, thO (A.fence k) 3 0 20, thO (A.fence k) 4 0 20, thO (A.fence k) 5 0 20, thO (A.fence k) 6 0 20, thO (A.fence k) 7 0 20, .dead, .dead, .dead, .dead, .dead, .dead, .dead, .dead, noO (A.fence k) 0, noO (A.fence k) 1, noO (A.fence k) 2, noO (A.fence k) 3, noO (A.fence k) 4, noO (A.fence k) 5, noO (A.fence k) 6, noO (A.fence k) 7, hiO (A.fence k) J2.1 0, hiO (A.fence k) J2.1 1, hiO (A.fence k) J2.1 2, hiO (A.fence k) J2.1 3, hiO (A.fence k) J2.1 4, hiO (A.fence k) J2.1 5, hiO (A.fence k) J2.1 6, hiO (A.fence k) J2.1 7]) := by
 refine yC (E := E) (fn := Tryz.f108) 57 [] rfl rfl rfl rfl (by decide) rfl (fun _ => rfl) ?_
 have kc := tCnt A J k hk true
 by_cases hc : A.cntB true = true
 ·rw [hc] at kc
  have hB := h.cnt k true
  have hnB := hn.cnt k true
  have hjB : JOk (A.cnt k true) J := by intro r hr; rw [jk_cnt, (cnt_p A k true).2.2.2.2.1]; exact hj r hr
  have hf : A.fence k = { fencS (A.cnt k true) k (fun _ => True) with note := upd (A.cnt k true).note k (fun _ => none) } := if_pos hc
  generalize A.cnt k true = B at *
  obtain ⟨q, hq⟩ : ∃ q : Nat, q = k := ⟨_, rfl⟩
  rw [← hq] at hnB
  subst hk0
  all_goals
   repeat' ((fail_if_success (with_reducible show awp _ _ (Code.region 1 _ _) _ _)); first
    | (with_reducible first | apply zY | apply zT | apply zM | apply zN | apply zO | refine chk_ok (by kernel_rfl) ?_)
    | ((with_reducible first | apply zP | apply zQ | apply zR | apply zL) <;> intro h <;> try (exfalso; first | omega | exact h rfl | (revert h; decide) | (cases h; done)))
    | ((with_reducible show False); omega)
    | ((first | (with_reducible first | apply zW | apply zV | apply zU | apply zS | apply zX | show VX _ _ _ _ _ _ _ | show vstep _ _ _ _ _ | show vskip _ _ _ | show withV _ _) | ((with_reducible show endA _ _ _ _ _ _ _); simp -implicitDefEqProofs only [endA]) | (with_reducible first | refine zB default (by first | omega | (simp only [LN, hq]; omega)) (by first | omega | (simp only [LN, hq]; omega)) ?_ | refine zC default (by first | omega | (simp only [LN, hq]; omega)) ?_ | refine And.intro (by first | decide | omega | assumption | (simp only [LN, hq]; omega)) ?_) | (with_reducible first | apply zG | apply zH | apply zI | apply hidePI_own) | ((with_reducible apply zJ); (first | exact kc | fail)) | ((with_reducible show pickE _ _ _); first | refine zA _ ⟨by omega, by rfl⟩ ?_ | refine zA _ (by rfl) ?_) | fail); try simp -dsimp -implicitDefEqProofs (maxSteps := 1000000) (disch := first | omega | (simp only [LN, hq]; omega)) only [go_sem, hq])
    | fail)
   refine r_openM (20 + q) (some .i64) (.i .u64 (B.note q)) (by subst hq; rfl) fun es cl hm => ?_
   simp -dsimp -implicitDefEqProofs (maxSteps := 1000000) (disch := first | omega | (simp only [LN, hq]; omega)) only [go_sem, hq]
   repeat' ((fail_if_success (with_reducible show awp _ _ (Code.region 2 _ _) _ _)); first
    | (with_reducible first | apply zY | apply zT | apply zM | apply zN | apply zO | refine chk_ok (by kernel_rfl) ?_)
    | ((with_reducible first | apply zP | apply zQ | apply zR | apply zL) <;> intro h <;> try (exfalso; first | omega | exact h rfl | (revert h; decide) | (cases h; done)))
    | ((with_reducible show False); omega)
    | ((first | (with_reducible first | apply zW | apply zV | apply zU | apply zS | apply zX | show VX _ _ _ _ _ _ _ | show vstep _ _ _ _ _ | show vskip _ _ _ | show withV _ _) | ((with_reducible show endA _ _ _ _ _ _ _); simp -implicitDefEqProofs only [endA]) | (with_reducible first | refine zB default (by first | omega | (simp only [LN, hq]; omega)) (by first | omega | (simp only [LN, hq]; omega)) ?_ | refine zC default (by first | omega | (simp only [LN, hq]; omega)) ?_ | refine And.intro (by first | decide | omega | assumption | (simp only [LN, hq]; omega)) ?_) | ((with_reducible show pickE _ _ _); first | refine zA _ ⟨by omega, by rfl⟩ ?_ | refine zA _ (by rfl) ?_) | fail); try simp -dsimp -implicitDefEqProofs (maxSteps := 1000000) (disch := first | omega | (simp only [LN, hq]; omega)) only [go_sem, hq])
    | fail)
   have hst := (MapKept.stamped_iff es cl).1 hm.st
   refine r_loop (α := Array Nat × Dv × (JT)) (fun x => ⟨57, [(0, some (.loc (4 + q) 0)), (23, some (.loc 28 0))], [some (deO x.2.1 1 2 3 4), some (peO x.2.1), some (cuO x.2.1), some (liO x.2.1 x.2.2 29), some (thO x.2.1 0 0 20), some (thO x.2.1 1 0 20), some (thO x.2.1 2 0 20), some (thO x.2.1 3 0 20), some (thO x.2.1 4 0 20), some (thO x.2.1 5 0 20), some (thO x.2.1 6 0 20), some (thO x.2.1 7 0 20), some (Ob.dead), some (Ob.dead), some (Ob.dead), some (Ob.dead), some (Ob.dead), some (Ob.dead), some (Ob.dead), some (Ob.dead), some (nmO x.2.1 es cl q 0), some (nmO x.2.1 es cl q 1), some (nmO x.2.1 es cl q 2), some (nmO x.2.1 es cl q 3), some (nmO x.2.1 es cl q 4), some (nmO x.2.1 es cl q 5), some (nmO x.2.1 es cl q 6), some (nmO x.2.1 es cl q 7), some (Ob.it (.mref (20 + q)) cl x.1 cl), some (hiO x.2.1 x.2.2 0), some (hiO x.2.1 x.2.2 1), some (hiO x.2.1 x.2.2 2), some (hiO x.2.1 x.2.2 3), some (hiO x.2.1 x.2.2 4), some (hiO x.2.1 x.2.2 5), some (hiO x.2.1 x.2.2 6), some (hiO x.2.1 x.2.2 7)]⟩) (fun x => x.2.1 = fencS B q (Saw es x.1) ∧ JOk x.2.1 x.2.2) (fun x => (leftOf es x.1).size) (#[], B, J) ?_ ?_ ?_
   ·refine ⟨(fencS_none hB ?_ ?_).symm, hjB⟩
    ·rintro r _ ⟨e, _, _, hs⟩; simp at hs
    ·rintro r _ ⟨e, _, _, hs⟩; simp at hs
   ·refine wk_auto ?_
    simp -dsimp -implicitDefEqProofs (maxSteps := 1000000) (disch := first | omega | (simp only [LN, hq]; omega)) only [go_sem, hq]
   ·rintro ⟨seen, D, J2⟩ ⟨hD, hJ2⟩
    simp only at hD hJ2
    simp -dsimp -implicitDefEqProofs (maxSteps := 1000000) (disch := first | omega | (simp only [LN, hq]; omega)) only [go_sem, hq]
    repeat' ((fail_if_success (with_reducible show awp _ _ (Code.region 2 _ _) _ _)); first
     | (with_reducible first | apply zY | apply zT | apply zM | apply zN | apply zO | refine chk_ok (by kernel_rfl) ?_)
     | ((with_reducible first | apply zP | apply zQ | apply zR | apply zL) <;> intro h <;> try (exfalso; first | omega | exact h rfl | (revert h; decide) | (cases h; done)))
     | ((with_reducible show False); omega)
     | ((first | (with_reducible first | apply zW | apply zV | apply zU | apply zS | apply zX | show VX _ _ _ _ _ _ _ | show vstep _ _ _ _ _ | show vskip _ _ _ | show withV _ _) | ((with_reducible show endA _ _ _ _ _ _ _); simp -implicitDefEqProofs only [endA]) | (with_reducible first | refine zB default (by first | omega | (simp only [LN, hq]; omega)) (by first | omega | (simp only [LN, hq]; omega)) ?_ | refine zC default (by first | omega | (simp only [LN, hq]; omega)) ?_ | refine And.intro (by first | decide | omega | assumption | (simp only [LN, hq]; omega)) ?_) | ((with_reducible show pickE _ _ _); first | refine zA _ ⟨by omega, by rfl⟩ ?_ | refine zA _ (by rfl) ?_) | fail); try simp -dsimp -implicitDefEqProofs (maxSteps := 1000000) (disch := first | omega | (simp only [LN, hq]; omega)) only [go_sem, hq])
     | fail)
    have hDw : WF D := hD ▸ wf_fencS hB hnB _
    have hDn : D.n = B.n := by rw [hD]; rfl
    have h6 := hB.n6
    refine r_next (it := 23) (t := 24) (k := 28) (m := 20 + q) (since := cl) (last := cl) (cl := cl) (seen := seen) (kk := some .i64) (es := es) (by subst hq; rfl) (by subst hq; rfl) (by subst hq; rfl) (by show 24 < 57; decide) (by subst hq; rfl) (by subst hq; rfl) (by subst hq; rfl) hst.1 (Nat.le_refl _) ?_ ?_ ?_
    ·intro e he
     obtain ⟨r, v, _, e1, _, e2, _⟩ := entry_is hnB hm he
     rw [e1, e2]; exact ⟨rfl, rfl⟩
    ·intro h0
     have hDa : D = fencS B q (fun _ => True) := hD.trans (fencS_all (fun r hr => (hB.len r hr).1) h6 hnB hm h0)
     subst hDa
     repeat' ((fail_if_success (with_reducible show awp _ _ (Code.region 7 _ _) _ _)); first
      | (with_reducible first | apply zY | apply zT | apply zM | apply zN | apply zO | refine chk_ok (by kernel_rfl) ?_)
      | ((with_reducible first | apply zP | apply zQ | apply zR | apply zL) <;> intro h <;> try (exfalso; first | omega | exact h rfl | (revert h; decide) | (cases h; done)))
      | ((with_reducible show False); omega)
      | ((first | (with_reducible first | apply zW | apply zV | apply zU | apply zS | apply zX | show VX _ _ _ _ _ _ _ | show vstep _ _ _ _ _ | show vskip _ _ _ | show withV _ _) | ((with_reducible show endA _ _ _ _ _ _ _); simp -implicitDefEqProofs only [endA]) | (with_reducible first | refine zB default (by first | omega | (simp only [LN, hq]; omega)) (by first | omega | (simp only [LN, hq]; omega)) ?_ | refine zC default (by first | omega | (simp only [LN, hq]; omega)) ?_ | refine And.intro (by first | decide | omega | assumption | (simp only [LN, hq]; omega)) ?_) | ((with_reducible show pickE _ _ _); first | refine zA _ ⟨by omega, by rfl⟩ ?_ | refine zA _ (by rfl) ?_) | fail); try simp -dsimp -implicitDefEqProofs (maxSteps := 1000000) (disch := first | omega | (simp only [LN, hq]; omega)) only [go_sem, hq])
      | fail)
     refine r_shutM (20 + q) (some .i64) es cl (.i .u64 (B.note q)) hm (by subst hq; rfl) ?_
     simp -dsimp -implicitDefEqProofs (maxSteps := 1000000) (disch := first | omega | (simp only [LN, hq]; omega)) only [go_sem, hq]
     repeat' (first
      | (with_reducible first | apply zY | apply zT | apply zM | apply zN | apply zO | refine chk_ok (by kernel_rfl) ?_)
      | ((with_reducible first | apply zP | apply zQ | apply zR | apply zL) <;> intro h <;> try (exfalso; first | omega | exact h rfl | (revert h; decide) | (cases h; done)))
      | ((with_reducible show False); omega)
      | ((first | (with_reducible first | apply zW | apply zV | apply zU | apply zS | apply zX | show VX _ _ _ _ _ _ _ | show vstep _ _ _ _ _ | show vskip _ _ _ | show withV _ _) | ((with_reducible show endA _ _ _ _ _ _ _); simp -implicitDefEqProofs only [endA]) | (with_reducible first | refine zB default (by first | omega | (simp only [LN, hq]; omega)) (by first | omega | (simp only [LN, hq]; omega)) ?_ | refine zC default (by first | omega | (simp only [LN, hq]; omega)) ?_ | refine And.intro (by first | decide | omega | assumption | (simp only [LN, hq]; omega)) ?_) | ((with_reducible show pickE _ _ _); first | refine zA _ ⟨by omega, by rfl⟩ ?_ | refine zA _ (by rfl) ?_) | fail); try simp -dsimp -implicitDefEqProofs (maxSteps := 1000000) (disch := first | omega | (simp only [LN, hq]; omega)) only [go_sem, hq])
      | fail)
     (refine endX_i (⟨J2, by subst hq; rw [hf]; exact hJ2⟩) ?_; simp -implicitDefEqProofs only [endA]; (simp -dsimp -implicitDefEqProofs (maxSteps := 1000000) (disch := first | omega | (simp only [LN, hf, hq]; omega)) only [go_sem, hf, hq]; try trivial))
     simp [jk, upd, fencS, hq]
    ·intro e he
     obtain ⟨hmem, hns⟩ := left_mem he
     obtain ⟨r, v, hr, hke, hno, hva, hv0, hv1⟩ := entry_is hnB hm hmem
     have hnew := saw_new hm.st he hke
     have hDd : D.done r = B.done r := by rw [hD]; exact if_neg hnew
     have hDh : D.hist r = B.hist r := by rw [hD]; exact if_neg hnew
     have hlr := hB.len r (by omega)
     obtain ⟨κ, hκ⟩ : ∃ κ, κ = kF B q r := ⟨_, rfl⟩
     have hkf : κ = (v - B.done r).toNat := by rw [hκ]; unfold kF; rw [hno]
     repeat' ((fail_if_success (with_reducible show awp _ _ (Code.region 3 _ _) _ _)); first
      | (with_reducible first | apply zY | apply zT | apply zM | apply zN | apply zO | refine chk_ok (by kernel_rfl) ?_)
      | ((with_reducible first | apply zP | apply zQ | apply zR | apply zL) <;> intro h <;> try (exfalso; first | omega | exact h rfl | (revert h; decide) | (cases h; done)))
      | ((with_reducible show False); omega)
      | ((first | (with_reducible first | apply zW | apply zV | apply zU | apply zS | apply zX | show VX _ _ _ _ _ _ _ | show vstep _ _ _ _ _ | show vskip _ _ _ | show withV _ _) | ((with_reducible show endA _ _ _ _ _ _ _); simp -implicitDefEqProofs only [endA]) | (with_reducible first | refine zB default (by first | omega | (simp only [LN, hq, hke, hva]; omega)) (by first | omega | (simp only [LN, hq, hke, hva]; omega)) ?_ | refine zC default (by first | omega | (simp only [LN, hq, hke, hva]; omega)) ?_ | refine And.intro (by first | decide | omega | assumption | (simp only [LN, hq, hke, hva]; omega)) ?_) | ((with_reducible show pickE _ _ _); first | refine zA _ ⟨by omega, by rfl⟩ ?_ | refine zA _ (by rfl) ?_) | fail); try simp -dsimp -implicitDefEqProofs (maxSteps := 1000000) (disch := first | omega | (simp only [LN, hq, hke, hva]; omega)) only [go_sem, hq, hke, hva])
      | fail)
     repeat' (first
      | (with_reducible first | apply zY | apply zT | apply zM | apply zN | apply zO | refine chk_ok (by kernel_rfl) ?_)
      | ((with_reducible first | apply zP | apply zQ | apply zR | apply zL) <;> intro h <;> try (exfalso; first | omega | exact h rfl | (revert h; decide) | (cases h; done)))
      | ((with_reducible show False); omega)
      | ((first | (with_reducible first | apply zW | apply zV | apply zU | apply zS | apply zX | show VX _ _ _ _ _ _ _ | show vstep _ _ _ _ _ | show vskip _ _ _ | show withV _ _) | ((with_reducible show endA _ _ _ _ _ _ _); simp -implicitDefEqProofs only [endA]) | (with_reducible first | refine zB default (by first | omega | (simp only [LN, hq, hke, hva]; omega)) (by first | omega | (simp only [LN, hq, hke, hva]; omega)) ?_ | refine zC default (by first | omega | (simp only [LN, hq, hke, hva]; omega)) ?_ | refine And.intro (by first | decide | omega | assumption | (simp only [LN, hq, hke, hva]; omega)) ?_) | ((with_reducible show pickE _ _ _); first | refine zA _ ⟨by omega, by rfl⟩ ?_ | refine zA _ (by rfl) ?_) | fail); try simp -dsimp -implicitDefEqProofs (maxSteps := 1000000) (disch := first | omega | (simp only [LN, hq, hke, hva]; omega)) only [go_sem, hq, hke, hva])
      | fail)
     refine zA e (by simp [hmem, hke, hva]; exact hst.2.1) ?_
     simp -dsimp -implicitDefEqProofs (maxSteps := 1000000) (disch := first | omega | (simp only [LN, hq, hke, hva]; omega)) only [go_sem, hq, hke, hva]
     repeat' ((fail_if_success (with_reducible show awp _ _ (Code.region 6 _ _) _ _)); first
      | (with_reducible first | apply zY | apply zT | apply zM | apply zN | apply zO | refine chk_ok (by kernel_rfl) ?_)
      | ((with_reducible first | apply zP | apply zQ | apply zR | apply zL) <;> intro h <;> try (exfalso; first | omega | exact h rfl | (revert h; decide) | (cases h; done)))
      | ((with_reducible show False); omega)
      | ((first | (with_reducible first | apply zW | apply zV | apply zU | apply zS | apply zX | show VX _ _ _ _ _ _ _ | show vstep _ _ _ _ _ | show vskip _ _ _ | show withV _ _) | ((with_reducible show endA _ _ _ _ _ _ _); simp -implicitDefEqProofs only [endA]) | (with_reducible first | refine zB default (by first | omega | (simp only [LN, hq, hke, hva, hDd]; omega)) (by first | omega | (simp only [LN, hq, hke, hva, hDd]; omega)) ?_ | refine zC default (by first | omega | (simp only [LN, hq, hke, hva, hDd]; omega)) ?_ | refine And.intro (by first | decide | omega | assumption | (simp only [LN, hq, hke, hva, hDd]; omega)) ?_) | ((with_reducible show pickE _ _ _); first | refine zA _ ⟨by omega, by rfl⟩ ?_ | refine zA _ (by rfl) ?_) | fail); try simp -dsimp -implicitDefEqProofs (maxSteps := 1000000) (disch := first | omega | (simp only [LN, hq, hke, hva, hDd]; omega)) only [go_sem, hq, hke, hva, hDd])
      | fail)
     ·have hgt : B.done r < v := by omega
      have hkle : κ ≤ (D.hist r).length := by rw [hDh, hkf]; omega
      have e1 : IntKind.u64.wrap (v - B.done r) = ((κ : Nat) : Int) := by rw [hkf, IntKind.wrap_u64]; omega
      have e2 : IntKind.i64.wrap ((κ : Nat) : Int) = ((κ : Nat) : Int) := by rw [hkf, IntKind.wrap_i64]; omega
      have hjl : (jk D J2 r).length ≤ 1000000000 := by have := hJ2 r (by omega); rw [hDd] at this; omega
      have hrn : r < D.n := by omega
      repeat' (first
       | (with_reducible first | apply zY | apply zT | apply zM | apply zN | apply zO | refine chk_ok (by kernel_rfl) ?_)
       | ((with_reducible first | apply zP | apply zQ | apply zR | apply zL) <;> intro h <;> try (exfalso; first | omega | exact h rfl | (revert h; decide) | (cases h; done)))
       | ((with_reducible show False); omega)
       | ((first | (with_reducible first | apply zW | apply zV | apply zU | apply zS | apply zX | show VX _ _ _ _ _ _ _ | show vstep _ _ _ _ _ | show vskip _ _ _ | show withV _ _) | ((with_reducible show endA _ _ _ _ _ _ _); simp -implicitDefEqProofs only [endA]) | (with_reducible first | refine zB default (by first | omega | (simp only [LN, hq, hke, hva, e1, e2]; omega)) (by first | omega | (simp only [LN, hq, hke, hva, e1, e2]; omega)) ?_ | refine zC default (by first | omega | (simp only [LN, hq, hke, hva, e1, e2]; omega)) ?_ | refine And.intro (by first | decide | omega | assumption | (simp only [LN, hq, hke, hva, e1, e2]; omega)) ?_) | (with_reducible first | apply zG | apply zH | apply zI | apply hidePI_own) | ((with_reducible apply zJ); (first | exact dPersist0 es cl D J2 hDw r (κ) hrn hkle hjl | fail)) | ((with_reducible show pickE _ _ _); first | refine zA _ ⟨by omega, by rfl⟩ ?_ | refine zA _ (by rfl) ?_) | fail); try simp -dsimp -implicitDefEqProofs (maxSteps := 1000000) (disch := first | omega | (simp only [LN, hq, hke, hva, e1, e2]; omega)) only [go_sem, hq, hke, hva, e1, e2])
       | fail)
      refine zZ (seen.push e.born, D.persist r (κ), jper D J2 r (κ)) (And.intro ?_ ?_) (left_lt he) ?_
      ·subst hq
       show D.persist r κ = _
       rw [hD, hκ]; exact fencS_step hB hnB hr hnew (saw_push hm.st he hke)
      ·exact hJ2.persist (fun i hi => (hDw.len i hi).1) r _ hkle
      ·simp -dsimp -implicitDefEqProofs (maxSteps := 1000000) (disch := first | omega | (simp only [LN, hq]; omega)) only [go_sem, hq]
     ·have hkz : κ = 0 := by rw [hkf]; omega
      have hst2 := fencS_step hB hnB hr hnew (saw_push hm.st he hke)
      rw [← hκ, hkz, persist_0] at hst2
      refine zZ (seen.push e.born, D, J2) ⟨by subst hq; exact hD.trans hst2, hJ2⟩ (left_lt he) ?_
      simp -dsimp -implicitDefEqProofs (maxSteps := 1000000) (disch := first | omega | (simp only [LN, hq]; omega)) only [go_sem, hq]
 ·simp only [Bool.not_eq_true] at hc
  rw [hc] at kc
  have hf : A.fence k = A.cnt k true := by unfold Dv.fence; rw [hc]; rfl
  have hjB : JOk (A.cnt k true) J := by intro r hr; rw [jk_cnt, (cnt_p A k true).2.2.2.2.1]; exact hj r hr
  repeat' (first
   | (with_reducible first | apply zY | apply zT | apply zM | apply zN | apply zO | refine chk_ok (by kernel_rfl) ?_)
   | ((with_reducible first | apply zP | apply zQ | apply zR | apply zL) <;> intro h <;> try (exfalso; first | omega | exact h rfl | (revert h; decide) | (cases h; done)))
   | ((with_reducible show False); omega)
   | ((first | (with_reducible first | apply zW | apply zV | apply zU | apply zS | apply zX | show VX _ _ _ _ _ _ _ | show vstep _ _ _ _ _ | show vskip _ _ _ | show withV _ _) | ((with_reducible show endA _ _ _ _ _ _ _); simp -implicitDefEqProofs only [endA]) | (with_reducible first | refine zB default (by first | omega | (simp only [LN]; omega)) (by first | omega | (simp only [LN]; omega)) ?_ | refine zC default (by first | omega | (simp only [LN]; omega)) ?_ | refine And.intro (by first | decide | omega | assumption | (simp only [LN]; omega)) ?_) | (with_reducible first | apply zG | apply zH | apply zI | apply hidePI_own) | ((with_reducible apply zJ); (first | exact kc | fail)) | ((with_reducible show pickE _ _ _); first | refine zA _ ⟨by omega, by rfl⟩ ?_ | refine zA _ (by rfl) ?_) | fail); try simp -dsimp -implicitDefEqProofs (maxSteps := 1000000) (disch := first | omega | (simp only [LN]; omega)) only [go_sem])
   | fail)
  (refine endX_i (⟨J, by rw [hf]; exact hjB⟩) ?_; simp -implicitDefEqProofs only [endA]; (simp -dsimp -implicitDefEqProofs (maxSteps := 1000000) (disch := first | omega | (simp only [LN, hf]; omega)) only [go_sem, hf]; try trivial))
end Go.Proofs.YtegekpjkbedngaaGreat
namespace Go.Proofs.YtegekpjkbedngaaGreat
set_option maxHeartbeats 4000000
set_option maxRecDepth 100000
open Go Go.Ab
attribute [local irreducible] callK callF loopQ vstep vskip pickE hideP
attribute [local go_sem] deO peO cuO liO thO hiO noO
theorem tFlush (A : Dv) (J : JT) (k : Nat) (hk : k < 8) (h : WF A) (o : Int) (ho : 0 ≤ o ∧ o ≤ 18446744073709551615) : ACalls Tryz.prog 109 [.loc (4 + k) 0, .p (.v (.int .u64 o))] [deO A 1 2 3 4, peO A, cuO A, liO A J 12, thO A 0 0 20, thO A 1 0 20, thO A 2 0 20, thO A 3 0 20, thO A 4 0 20, thO A 5 0 20, thO A 6 0 20, thO A 7 0 20, hiO A J 0, hiO A J 1, hiO A J 2, hiO A J 3, hiO A J 4, hiO A J 5, hiO A J 6, hiO A J 7, noO A 0, noO A 1, noO A 2, noO A 3, noO A 4, noO A 5, noO A 6, noO A 7] (.p (.tup [])) [deO (A.flush k o) 1 2 3 4, peO (A.flush k o), cuO (A.flush k o), liO (A.flush k o) J 12, thO (A.flush k o) 0 0 20, thO (A.flush k o) 1 0 20, thO (A.flush k o) 2 0 20, thO (A.flush k o) 3 0 20, thO (A.flush k o) 4 0 20, thO (A.flush k o) 5 0 20, thO (A.flush k o) 6 0 20, thO (A.flush k o) 7 0 20, hiO (A.flush k o) J 0, hiO (A.flush k o) J 1, hiO (A.flush k o) J 2, hiO (A.flush k o) J 3, hiO (A.flush k o) J 4, hiO (A.flush k o) J 5, hiO (A.flush k o) J 6, hiO (A.flush k o) J 7, noO (A.flush k o) 0, noO (A.flush k o) 1, noO (A.flush k o) 2, noO (A.flush k o) 3, noO (A.flush k o) 4, noO (A.flush k o) 5, noO (A.flush k o) 6, noO (A.flush k o) 7] := by
 refine yA (E := E) (fn := Tryz.f109) 55 [] rfl rfl rfl rfl (by decide) rfl rfl ?_
 have h6 := h.n6
 have ks := dSize6 A J h.n6
 have kc := tCnt A J k hk (A.isB o)
 by_cases hc : A.cntB (A.isB o) = true
 ·have hb : A.isB o = true := cntB_of hc
  simp [Dv.isB] at hb
  obtain ⟨r, hr⟩ : ∃ r, r = (o / 64).toNat := ⟨_, rfl⟩
  have hr6 : r < 8 := by omega
  have hrn : r < (A.cnt k (A.isB o)).n := by rw [(cnt_p A k _).1]; omega
  have hl := h.len r hr6
  have e1 : IntKind.u64.wrap (o.tdiv 64) = (r : Int) := by rw [Int.tdiv_eq_ediv_of_nonneg (by omega), IntKind.wrap_u64]; omega
  have e2 : IntKind.i64.wrap (r : Int) = (r : Int) := by rw [IntKind.wrap_i64]; omega
  have hcd := (cnt_p A k (A.isB o)).2.2.2.2.1
  have hch := (cnt_p A k (A.isB o)).2.2.2.1
  have e3 : IntKind.u64.wrap (((A.cnt k (A.isB o)).hist r).length : Int) = ((A.cnt k (A.isB o)).hist r).length := by rw [hch, IntKind.wrap_u64]; omega
  have e4 : IntKind.u64.wrap ((A.cnt k (A.isB o)).done r + ((A.cnt k (A.isB o)).hist r).length) = (A.cnt k (A.isB o)).done r + ((A.cnt k (A.isB o)).hist r).length := by rw [hch, hcd, IntKind.wrap_u64]; omega
  rw [hc] at kc
  rw [show A.flush k o = (A.cnt k (A.isB o)).noted k r from by rw [hr]; exact if_pos hc]
  repeat' (first
   | (with_reducible first | apply zY | apply zT | apply zM | apply zN | apply zO | refine chk_ok (by rcases lt8 hk with rfl | rfl | rfl | rfl | rfl | rfl | rfl | rfl <;> kernel_rfl) ?_)
   | ((with_reducible first | apply zP | apply zQ | apply zR | apply zL) <;> intro h <;> try (exfalso; first | omega | exact h rfl | (revert h; decide) | (cases h; done)))
   | ((with_reducible show False); omega)
   | ((first | (with_reducible first | apply zW | apply zV | apply zU | apply zS | apply zX | show VX _ _ _ _ _ _ _ | show vstep _ _ _ _ _ | show vskip _ _ _ | show withV _ _) | ((with_reducible show endA _ _ _ _ _ _ _); simp -implicitDefEqProofs only [endA]) | (with_reducible first | refine zB default (by first | omega | (simp only [LN, e1, e2, e3, e4]; omega)) (by first | omega | (simp only [LN, e1, e2, e3, e4]; omega)) ?_ | refine zC default (by first | omega | (simp only [LN, e1, e2, e3, e4]; omega)) ?_ | refine And.intro (by first | decide | omega | assumption | (simp only [LN, e1, e2, e3, e4]; omega)) ?_) | (with_reducible first | apply zG | apply zH | apply zI | apply hidePI_own) | ((with_reducible apply zJ); (first | exact ks | exact kc | fail)) | ((with_reducible show pickE _ _ _); first | refine zA _ ⟨by omega, by rfl⟩ ?_ | refine zA _ (by rfl) ?_) | fail); try simp -dsimp -implicitDefEqProofs (maxSteps := 1000000) (disch := first | omega | (simp only [LN, e1, e2, e3, e4]; omega)) only [go_sem, e1, e2, e3, e4])
   | fail)
  simp [Dv.noted, jk]
 ·simp only [Bool.not_eq_true] at hc
  rw [hc] at kc
  rw [show A.flush k o = A.cnt k (A.isB o) from by unfold Dv.flush; rw [hc]; rfl]
  repeat' (first
   | (with_reducible first | apply zY | apply zT | apply zM | apply zN | apply zO | refine chk_ok (by kernel_rfl) ?_)
   | ((with_reducible first | apply zP | apply zQ | apply zR | apply zL) <;> intro h <;> try (exfalso; first | omega | exact h rfl | (revert h; decide) | (cases h; done)))
   | ((with_reducible show False); omega)
   | ((first | (with_reducible first | apply zW | apply zV | apply zU | apply zS | apply zX | show VX _ _ _ _ _ _ _ | show vstep _ _ _ _ _ | show vskip _ _ _ | show withV _ _) | ((with_reducible show endA _ _ _ _ _ _ _); simp -implicitDefEqProofs only [endA]) | (with_reducible first | refine zB default (by first | omega | (simp only [LN]; omega)) (by first | omega | (simp only [LN]; omega)) ?_ | refine zC default (by first | omega | (simp only [LN]; omega)) ?_ | refine And.intro (by first | decide | omega | assumption | (simp only [LN]; omega)) ?_) | (with_reducible first | apply zG | apply zH | apply zI | apply hidePI_own) | ((with_reducible apply zJ); (first | exact ks | exact kc | fail)) | ((with_reducible show pickE _ _ _); first | refine zA _ ⟨by omega, by rfl⟩ ?_ | refine zA _ (by rfl) ?_) | fail); try simp -dsimp -implicitDefEqProofs (maxSteps := 1000000) (disch := first | omega | (simp only [LN]; omega)) only [go_sem])
   | fail)
end Go.Proofs.YtegekpjkbedngaaGreat
namespace Go.Proofs.YtegekpjkbedngaaGreat
set_option maxHeartbeats 4000000
set_option maxRecDepth 100000
open Go Go.Ab
attribute [local irreducible] callK callF loopQ vstep vskip pickE hideP
abbrev Ins := Int × Int × Int
structure RngI (x : Ins) : Prop where
 k : x.1 = 1 ∨ x.1 = 2 ∨ x.1 = 3
 o : 0 ≤ x.2.1 ∧ x.2.1 ≤ 18446744073709551615
 v : 0 ≤ x.2.2 ∧ x.2.2 ≤ 18446744073709551615
noncomputable def Dv.exec (A : Dv) (x : Ins) : Dv := if x.1 = 1 then A.store 0 x.2.1 x.2.2 else if x.1 = 2 then A.flush 0 x.2.1 else A.fence 0
attribute [local go_sem] eIn eU deO peO cuO liO thO hiO noO
theorem kExec1 (A : Dv) (J : JT) (N : Nat) (h : Inv A J N) (hN : N < 1000000000) (o v : Int) (ho : 0 ≤ o ∧ o ≤ 18446744073709551615) (hv : 0 ≤ v ∧ v ≤ 18446744073709551615) : ACallsX Tryz.prog 29 [.p (eIn (1, o, v)), .ifc 43 (.loc 4 0)] [deO A 1 2 3 4, peO A, cuO A, liO A J 12, thO A 0 0 20, thO A 1 0 20, thO A 2 0 20, thO A 3 0 20, thO A 4 0 20, thO A 5 0 20, thO A 6 0 20, thO A 7 0 20, hiO A J 0, hiO A J 1, hiO A J 2, hiO A J 3, hiO A J 4, hiO A J 5, hiO A J 6, hiO A J 7, noO A 0, noO A 1, noO A 2, noO A 3, noO A 4, noO A 5, noO A 6, noO A 7] (fun g : { J2 : JT // Inv (A.exec (1, o, v)) J2 (N + 1) } => .p (.tup [])) (fun g : { J2 : JT // Inv (A.exec (1, o, v)) J2 (N + 1) } => [deO (A.exec (1, o, v)) 1 2 3 4, peO (A.exec (1, o, v)), cuO (A.exec (1, o, v)), liO (A.exec (1, o, v)) g.1 28, thO (A.exec (1, o, v)) 0 0 20, thO (A.exec (1, o, v)) 1 0 20, thO (A.exec (1, o, v)) 2 0 20, thO (A.exec (1, o, v)) 3 0 20, thO (A.exec (1, o, v)) 4 0 20, thO (A.exec (1, o, v)) 5 0 20, thO (A.exec (1, o, v)) 6 0 20, thO (A.exec (1, o, v)) 7 0 20, .dead, .dead, .dead, .dead, .dead, .dead, .dead, .dead, noO (A.exec (1, o, v)) 0, noO (A.exec (1, o, v)) 1, noO (A.exec (1, o, v)) 2, noO (A.exec (1, o, v)) 3, noO (A.exec (1, o, v)) 4, noO (A.exec (1, o, v)) 5, noO (A.exec (1, o, v)) 6, noO (A.exec (1, o, v)) 7, hiO (A.exec (1, o, v)) g.1 0, hiO (A.exec (1, o, v)) g.1 1, hiO (A.exec (1, o, v)) g.1 2, hiO (A.exec (1, o, v)) g.1 3, hiO (A.exec (1, o, v)) g.1 4, hiO (A.exec (1, o, v)) g.1 5, hiO (A.exec (1, o, v)) g.1 6, hiO (A.exec (1, o, v)) g.1 7]) := by
 refine yC (E := E) (fn := Tryz.f29) 24 [] rfl rfl rfl rfl (by decide) rfl (fun _ => rfl) ?_
 have kp := tStore A J 0 (by omega) h.wf (h.jl (by omega)) o v ho hv
 have e1 : A.exec (1, o, v) = A.store 0 o v := by unfold Dv.exec; rw [if_pos rfl]
 have hI := fun g => h.store hN 0 ho.1 hv g
 rw [← e1] at kp hI
 generalize A.exec (1, o, v) = B at *
 repeat' (first
  | (with_reducible first | apply zY | apply zT | apply zM | apply zN | apply zO | refine chk_ok (by kernel_rfl) ?_)
  | ((with_reducible first | apply zP | apply zQ | apply zR | apply zL) <;> intro h <;> try (exfalso; first | omega | exact h rfl | (revert h; decide) | (cases h; done)))
  | ((with_reducible show False); omega)
  | ((with_reducible first | refine r_gr0 [999999] (by with_unfolding_all exact rfl) ?_ | refine r_gr1 [999999] (by with_unfolding_all exact rfl) ?_ | refine r_gr2 [999999] (by with_unfolding_all exact rfl) ?_ | refine r_gr3 [999999] (by with_unfolding_all exact rfl) ?_ | refine r_gr4 [999999] (by with_unfolding_all exact rfl) ?_ | refine r_gr5 [999999] (by with_unfolding_all exact rfl) ?_ | refine r_gr6 [999999] (by with_unfolding_all exact rfl) ?_ | refine r_gr7 [999999] (by with_unfolding_all exact rfl) ?_ | refine r_gr8 [999999] (by with_unfolding_all exact rfl) ?_ | refine r_gr9 [999999] (by with_unfolding_all exact rfl) ?_ | refine r_gr10 [999999] (by with_unfolding_all exact rfl) ?_); simp -dsimp -implicitDefEqProofs (maxSteps := 1000000) (disch := first | omega | (simp only [LN]; omega)) only [go_sem])
  | ((first | (with_reducible first | apply zW | apply zV | apply zU | apply zS | apply zX | show VX _ _ _ _ _ _ _ | show vstep _ _ _ _ _ | show vskip _ _ _ | show withV _ _) | ((with_reducible show endA _ _ _ _ _ _ _); simp -implicitDefEqProofs only [endA]) | (with_reducible first | refine zB default (by first | omega | (simp only [LN]; omega)) (by first | omega | (simp only [LN]; omega)) ?_ | refine zC default (by first | omega | (simp only [LN]; omega)) ?_ | refine And.intro (by first | decide | omega | assumption | (simp only [LN]; omega)) ?_) | ((with_reducible apply zK); (first | exact kp | fail); intro gq) | ((with_reducible show pickE _ _ _); first | refine zA _ ⟨by omega, by rfl⟩ ?_ | refine zA _ (by rfl) ?_) | fail); try simp -dsimp -implicitDefEqProofs (maxSteps := 1000000) (disch := first | omega | (simp only [LN]; omega)) only [go_sem])
  | fail)
 (refine endX_i (⟨jsto A J 0 o gq, hI gq⟩) ?_; simp -implicitDefEqProofs only [endA]; (simp -dsimp -implicitDefEqProofs (maxSteps := 1000000) (disch := first | omega | (simp only [LN]; omega)) only [go_sem]; try trivial))
theorem kExec2 (A : Dv) (J : JT) (N : Nat) (h : Inv A J N) (hN : N < 1000000000) (o v : Int) (ho : 0 ≤ o ∧ o ≤ 18446744073709551615) : ACallsX Tryz.prog 29 [.p (eIn (2, o, v)), .ifc 43 (.loc 4 0)] [deO A 1 2 3 4, peO A, cuO A, liO A J 12, thO A 0 0 20, thO A 1 0 20, thO A 2 0 20, thO A 3 0 20, thO A 4 0 20, thO A 5 0 20, thO A 6 0 20, thO A 7 0 20, hiO A J 0, hiO A J 1, hiO A J 2, hiO A J 3, hiO A J 4, hiO A J 5, hiO A J 6, hiO A J 7, noO A 0, noO A 1, noO A 2, noO A 3, noO A 4, noO A 5, noO A 6, noO A 7] (fun g : { J2 : JT // Inv (A.exec (2, o, v)) J2 (N + 1) } => .p (.tup [])) (fun g : { J2 : JT // Inv (A.exec (2, o, v)) J2 (N + 1) } => [deO (A.exec (2, o, v)) 1 2 3 4, peO (A.exec (2, o, v)), cuO (A.exec (2, o, v)), liO (A.exec (2, o, v)) g.1 28, thO (A.exec (2, o, v)) 0 0 20, thO (A.exec (2, o, v)) 1 0 20, thO (A.exec (2, o, v)) 2 0 20, thO (A.exec (2, o, v)) 3 0 20, thO (A.exec (2, o, v)) 4 0 20, thO (A.exec (2, o, v)) 5 0 20, thO (A.exec (2, o, v)) 6 0 20, thO (A.exec (2, o, v)) 7 0 20, .dead, .dead, .dead, .dead, .dead, .dead, .dead, .dead, noO (A.exec (2, o, v)) 0, noO (A.exec (2, o, v)) 1, noO (A.exec (2, o, v)) 2, noO (A.exec (2, o, v)) 3, noO (A.exec (2, o, v)) 4, noO (A.exec (2, o, v)) 5, noO (A.exec (2, o, v)) 6, noO (A.exec (2, o, v)) 7, hiO (A.exec (2, o, v)) g.1 0, hiO (A.exec (2, o, v)) g.1 1, hiO (A.exec (2, o, v)) g.1 2, hiO (A.exec (2, o, v)) g.1 3, hiO (A.exec (2, o, v)) g.1 4, hiO (A.exec (2, o, v)) g.1 5, hiO (A.exec (2, o, v)) g.1 6, hiO (A.exec (2, o, v)) g.1 7]) := by
 refine yC (E := E) (fn := Tryz.f29) 24 [] rfl rfl rfl rfl (by decide) rfl (fun _ => rfl) ?_
 have kp := (tFlush A J 0 (by omega) h.wf o ho)
 have e1 : A.exec (2, o, v) = A.flush 0 o := by unfold Dv.exec; rw [if_neg (by simp), if_pos rfl]
 have hI : Inv (A.flush 0 o) J (N + 1) := (h.flush 0 ho.1).le (by omega)
 rw [← e1] at kp hI
 generalize A.exec (2, o, v) = B at *
 repeat' (first
  | (with_reducible first | apply zY | apply zT | apply zM | apply zN | apply zO | refine chk_ok (by kernel_rfl) ?_)
  | ((with_reducible first | apply zP | apply zQ | apply zR | apply zL) <;> intro h <;> try (exfalso; first | omega | exact h rfl | (revert h; decide) | (cases h; done)))
  | ((with_reducible show False); omega)
  | ((first | (with_reducible first | apply zW | apply zV | apply zU | apply zS | apply zX | show VX _ _ _ _ _ _ _ | show vstep _ _ _ _ _ | show vskip _ _ _ | show withV _ _) | ((with_reducible show endA _ _ _ _ _ _ _); simp -implicitDefEqProofs only [endA]) | (with_reducible first | refine zB default (by first | omega | (simp only [LN]; omega)) (by first | omega | (simp only [LN]; omega)) ?_ | refine zC default (by first | omega | (simp only [LN]; omega)) ?_ | refine And.intro (by first | decide | omega | assumption | (simp only [LN]; omega)) ?_) | (with_reducible first | apply zG | apply zH | apply zI | apply hidePI_own) | ((with_reducible apply zJ); (first | exact kp | fail)) | ((with_reducible show pickE _ _ _); first | refine zA _ ⟨by omega, by rfl⟩ ?_ | refine zA _ (by rfl) ?_) | fail); try simp -dsimp -implicitDefEqProofs (maxSteps := 1000000) (disch := first | omega | (simp only [LN]; omega)) only [go_sem])
  | fail)
 (refine endX_i (⟨J, hI⟩) ?_; simp -implicitDefEqProofs only [endA]; (simp -dsimp -implicitDefEqProofs (maxSteps := 1000000) (disch := first | omega | (simp only [LN]; omega)) only [go_sem]; try trivial))
theorem kExec3 (A : Dv) (J : JT) (N : Nat) (h : Inv A J N) (hN : N < 1000000000) (o v : Int) : ACallsX Tryz.prog 29 [.p (eIn (3, o, v)), .ifc 43 (.loc 4 0)] [deO A 1 2 3 4, peO A, cuO A, liO A J 12, thO A 0 0 20, thO A 1 0 20, thO A 2 0 20, thO A 3 0 20, thO A 4 0 20, thO A 5 0 20, thO A 6 0 20, thO A 7 0 20, hiO A J 0, hiO A J 1, hiO A J 2, hiO A J 3, hiO A J 4, hiO A J 5, hiO A J 6, hiO A J 7, noO A 0, noO A 1, noO A 2, noO A 3, noO A 4, noO A 5, noO A 6, noO A 7] (fun g : { J2 : JT // Inv (A.exec (3, o, v)) J2 (N + 1) } => .p (.tup [])) (fun g : { J2 : JT // Inv (A.exec (3, o, v)) J2 (N + 1) } => [deO (A.exec (3, o, v)) 1 2 3 4, peO (A.exec (3, o, v)), cuO (A.exec (3, o, v)), liO (A.exec (3, o, v)) g.1 28, thO (A.exec (3, o, v)) 0 0 20, thO (A.exec (3, o, v)) 1 0 20, thO (A.exec (3, o, v)) 2 0 20, thO (A.exec (3, o, v)) 3 0 20, thO (A.exec (3, o, v)) 4 0 20, thO (A.exec (3, o, v)) 5 0 20, thO (A.exec (3, o, v)) 6 0 20, thO (A.exec (3, o, v)) 7 0 20, .dead, .dead, .dead, .dead, .dead, .dead, .dead, .dead, noO (A.exec (3, o, v)) 0, noO (A.exec (3, o, v)) 1, noO (A.exec (3, o, v)) 2, noO (A.exec (3, o, v)) 3, noO (A.exec (3, o, v)) 4, noO (A.exec (3, o, v)) 5, noO (A.exec (3, o, v)) 6, noO (A.exec (3, o, v)) 7, hiO (A.exec (3, o, v)) g.1 0, hiO (A.exec (3, o, v)) g.1 1, hiO (A.exec (3, o, v)) g.1 2, hiO (A.exec (3, o, v)) g.1 3, hiO (A.exec (3, o, v)) g.1 4, hiO (A.exec (3, o, v)) g.1 5, hiO (A.exec (3, o, v)) g.1 6, hiO (A.exec (3, o, v)) g.1 7]) := by
 refine yC (E := E) (fn := Tryz.f29) 24 [] rfl rfl rfl rfl (by decide) rfl (fun _ => rfl) ?_
 have kp := tFence A J 0 (by omega) rfl h.wf (h.no 0 (by omega)) h.jo
 have e1 : A.exec (3, o, v) = A.fence 0 := by unfold Dv.exec; rw [if_neg (by simp), if_neg (by simp)]
 have hI : ∀ J2, JOk (A.fence 0) J2 → Inv (A.fence 0) J2 (N + 1) := fun J2 hj => (h.fence 0 (by omega) hj).le (by omega)
 rw [← e1] at kp hI
 generalize A.exec (3, o, v) = B at *
 repeat' (first
  | (with_reducible first | apply zY | apply zT | apply zM | apply zN | apply zO | refine chk_ok (by kernel_rfl) ?_)
  | ((with_reducible first | apply zP | apply zQ | apply zR | apply zL) <;> intro h <;> try (exfalso; first | omega | exact h rfl | (revert h; decide) | (cases h; done)))
  | ((with_reducible show False); omega)
  | ((with_reducible first | refine r_gr0 [999999] (by with_unfolding_all exact rfl) ?_ | refine r_gr1 [999999] (by with_unfolding_all exact rfl) ?_ | refine r_gr2 [999999] (by with_unfolding_all exact rfl) ?_ | refine r_gr3 [999999] (by with_unfolding_all exact rfl) ?_ | refine r_gr4 [999999] (by with_unfolding_all exact rfl) ?_ | refine r_gr5 [999999] (by with_unfolding_all exact rfl) ?_ | refine r_gr6 [999999] (by with_unfolding_all exact rfl) ?_ | refine r_gr7 [999999] (by with_unfolding_all exact rfl) ?_ | refine r_gr8 [999999] (by with_unfolding_all exact rfl) ?_ | refine r_gr9 [999999] (by with_unfolding_all exact rfl) ?_ | refine r_gr10 [999999] (by with_unfolding_all exact rfl) ?_); simp -dsimp -implicitDefEqProofs (maxSteps := 1000000) (disch := first | omega | (simp only [LN]; omega)) only [go_sem])
  | ((first | (with_reducible first | apply zW | apply zV | apply zU | apply zS | apply zX | show VX _ _ _ _ _ _ _ | show vstep _ _ _ _ _ | show vskip _ _ _ | show withV _ _) | ((with_reducible show endA _ _ _ _ _ _ _); simp -implicitDefEqProofs only [endA]) | (with_reducible first | refine zB default (by first | omega | (simp only [LN]; omega)) (by first | omega | (simp only [LN]; omega)) ?_ | refine zC default (by first | omega | (simp only [LN]; omega)) ?_ | refine And.intro (by first | decide | omega | assumption | (simp only [LN]; omega)) ?_) | ((with_reducible apply zK); (first | exact kp | fail); intro gq) | ((with_reducible show pickE _ _ _); first | refine zA _ ⟨by omega, by rfl⟩ ?_ | refine zA _ (by rfl) ?_) | fail); try simp -dsimp -implicitDefEqProofs (maxSteps := 1000000) (disch := first | omega | (simp only [LN]; omega)) only [go_sem])
  | fail)
 (refine endX_i (⟨gq.1, hI gq.1 gq.2⟩) ?_; simp -implicitDefEqProofs only [endA]; (simp -dsimp -implicitDefEqProofs (maxSteps := 1000000) (disch := first | omega | (simp only [LN]; omega)) only [go_sem]; try trivial))
theorem kExec (A : Dv) (J : JT) (N : Nat) (h : Inv A J N) (hN : N < 1000000000) (x : Ins) (hx : RngI x) : ACallsX Tryz.prog 29 [.p (eIn x), .ifc 43 (.loc 4 0)] [deO A 1 2 3 4, peO A, cuO A, liO A J 12, thO A 0 0 20, thO A 1 0 20, thO A 2 0 20, thO A 3 0 20, thO A 4 0 20, thO A 5 0 20, thO A 6 0 20, thO A 7 0 20, hiO A J 0, hiO A J 1, hiO A J 2, hiO A J 3, hiO A J 4, hiO A J 5, hiO A J 6, hiO A J 7, noO A 0, noO A 1, noO A 2, noO A 3, noO A 4, noO A 5, noO A 6, noO A 7] (fun g : { J2 : JT // Inv (A.exec x) J2 (N + 1) } => .p (.tup [])) (fun g => [deO (A.exec x) 1 2 3 4, peO (A.exec x), cuO (A.exec x), liO (A.exec x) g.1 28, thO (A.exec x) 0 0 20, thO (A.exec x) 1 0 20, thO (A.exec x) 2 0 20, thO (A.exec x) 3 0 20, thO (A.exec x) 4 0 20, thO (A.exec x) 5 0 20, thO (A.exec x) 6 0 20, thO (A.exec x) 7 0 20, .dead, .dead, .dead, .dead, .dead, .dead, .dead, .dead, noO (A.exec x) 0, noO (A.exec x) 1, noO (A.exec x) 2, noO (A.exec x) 3, noO (A.exec x) 4, noO (A.exec x) 5, noO (A.exec x) 6, noO (A.exec x) 7, hiO (A.exec x) g.1 0, hiO (A.exec x) g.1 1, hiO (A.exec x) g.1 2, hiO (A.exec x) g.1 3, hiO (A.exec x) g.1 4, hiO (A.exec x) g.1 5, hiO (A.exec x) g.1 6, hiO (A.exec x) g.1 7]) := by
 obtain ⟨k, o, v⟩ := x
 obtain ⟨hk, ho, hv⟩ := hx
 simp only at hk ho hv
 rcases hk with rfl | rfl | rfl
 ·exact kExec1 A J N h hN o v ho hv
 ·exact kExec2 A J N h hN o v ho
 ·exact kExec3 A J N h hN o v
theorem kProgOk (l : List Ins) (hl : ∀ x, x ∈ l → RngI x) : PCalls Tryz.prog 28 [.view 3 (l.map eIn)] (.v (.bool true)) := by
 refine yD ⟨_, rfl, rfl, by decide⟩ fun hf => ?_
 simp only [go_sem, big] at hf
 refine yB (E := E) (fn := Tryz.f28) 20 [.tmp 2] rfl rfl rfl rfl (by decide) rfl ?_
 repeat' (first
  | (with_reducible first | apply zY | apply zT | apply zM | apply zN | apply zO | refine chk_ok (by kernel_rfl) ?_)
  | ((with_reducible first | apply zP | apply zQ | apply zR | apply zL) <;> intro h <;> try (exfalso; first | omega | exact h rfl | (revert h; decide) | (cases h; done)))
  | ((with_reducible show False); omega)
  | ((first | (with_reducible first | apply zW | apply zV | apply zU | apply zS | apply zX | show VX _ _ _ _ _ _ _ | show vstep _ _ _ _ _ | show vskip _ _ _ | show withV _ _) | ((with_reducible show endA _ _ _ _ _ _ _); simp -implicitDefEqProofs only [endA]) | (with_reducible first | refine zB default (by first | omega | (simp only [LN]; omega)) (by first | omega | (simp only [LN]; omega)) ?_ | refine zC default (by first | omega | (simp only [LN]; omega)) ?_ | refine And.intro (by first | decide | omega | assumption | (simp only [LN]; omega)) ?_) | ((with_reducible show pickE _ _ _); first | refine zA _ ⟨by omega, by rfl⟩ ?_ | refine zA _ (by rfl) ?_) | fail); try simp -dsimp -implicitDefEqProofs (maxSteps := 1000000) (disch := first | omega | (simp only [LN]; omega)) only [go_sem])
  | fail)
 refine r_loopA (α := Nat) [5, 6] (fun i b => [(7, aI i)]) (fun i b => []) (fun i => []) (fun i => i ≤ l.length) (fun i => l.length - i) (0) ?h0_1 ?hs0_1 ?I_1 ?hI_1 ?round_1
 case hI_1 => intro x; (simp -dsimp -implicitDefEqProofs (maxSteps := 1000000) (disch := first | omega | (simp only [LN]; omega)) only [go_sem]) <;> exact rfl
 case hs0_1 => refine wk_auto ?_; (simp -dsimp -implicitDefEqProofs (maxSteps := 1000000) (disch := first | omega | (simp only [LN]; omega)) only [go_sem]) <;> (try omega)
 case h0_1 => exact Nat.zero_le _
 case round_1 =>
  intro i hi
  have w3 : IntKind.i64.wrap ((i : Int) + 1) = ((i + 1 : Nat) : Int) := by rw [IntKind.wrap_i64]; push_cast; omega
  by_cases hi2 : i < l.length
  ·have hm : l.getD i default ∈ l := by rw [List.getD_eq_getElem?_getD, List.getElem?_eq_getElem hi2]; exact List.getElem_mem hi2
   have hk := (hl _ hm).k
   generalize hxx : l.getD i default = x at *
   obtain ⟨x1, x2, x3⟩ := x
   simp only at hk
   repeat' (first
    | (with_reducible first | apply zY | apply zT | apply zM | apply zN | apply zO | refine chk_ok (by kernel_rfl) ?_)
    | ((with_reducible first | apply zP | apply zQ | apply zR | apply zL) <;> intro h <;> try (exfalso; first | omega | exact h rfl | (revert h; decide) | (cases h; done)))
    | ((with_reducible show False); omega)
    | ((first | (with_reducible first | apply zW | apply zV | apply zU | apply zS | apply zX | show VX _ _ _ _ _ _ _ | show vstep _ _ _ _ _ | show vskip _ _ _ | show withV _ _) | ((with_reducible show endA _ _ _ _ _ _ _); simp -implicitDefEqProofs only [endA]) | (with_reducible first | refine zB default (by first | omega | (simp only [LN, hxx]; omega)) (by first | omega | (simp only [LN, hxx]; omega)) ?_ | refine zC default (by first | omega | (simp only [LN, hxx]; omega)) ?_ | refine And.intro (by first | decide | omega | assumption | (simp only [LN, hxx]; omega)) ?_) | ((with_reducible show pickE _ _ _); first | refine zA _ ⟨by omega, by rfl⟩ ?_ | refine zA _ (by rfl) ?_) | fail); try simp -dsimp -implicitDefEqProofs (maxSteps := 1000000) (disch := first | omega | (simp only [LN, hxx]; omega)) only [go_sem, hxx])
    | fail)
   all_goals first | omega | ((refine zZ (i + 1) ?_ ?_ ?_; (omega); (show _ < _; omega); (simp -dsimp -implicitDefEqProofs (maxSteps := 1000000) (disch := first | omega | (simp only [LN, w3]; omega)) only [go_sem, w3]; try trivial)))
  ·obtain rfl : i = l.length := by omega
   repeat' (first
    | (with_reducible first | apply zY | apply zT | apply zM | apply zN | apply zO | refine chk_ok (by kernel_rfl) ?_)
    | ((with_reducible first | apply zP | apply zQ | apply zR | apply zL) <;> intro h <;> try (exfalso; first | omega | exact h rfl | (revert h; decide) | (cases h; done)))
    | ((with_reducible show False); omega)
    | ((first | (with_reducible first | apply zW | apply zV | apply zU | apply zS | apply zX | show VX _ _ _ _ _ _ _ | show vstep _ _ _ _ _ | show vskip _ _ _ | show withV _ _) | ((with_reducible show endA _ _ _ _ _ _ _); simp -implicitDefEqProofs only [endA]) | (with_reducible first | refine zB default (by first | omega | (simp only [LN]; omega)) (by first | omega | (simp only [LN]; omega)) ?_ | refine zC default (by first | omega | (simp only [LN]; omega)) ?_ | refine And.intro (by first | decide | omega | assumption | (simp only [LN]; omega)) ?_) | ((with_reducible show pickE _ _ _); first | refine zA _ ⟨by omega, by rfl⟩ ?_ | refine zA _ (by rfl) ?_) | fail); try simp -dsimp -implicitDefEqProofs (maxSteps := 1000000) (disch := first | omega | (simp only [LN]; omega)) only [go_sem])
    | fail)
   all_goals first | omega
theorem acalls_view {P : Program} {g : FuncId} {sz : Nat} {es : List PV} {L : List Ob} {r : AV} {L' : List Ob} (h0 : es ≠ []) (h : ACalls P g [.p (.nview sz es)] L r L') : ACalls P g [.p (.view sz es)] L r L' := by
 obtain ⟨h1, h2, h3⟩ := h
 refine ⟨h1, h2, fun Z lb w vals ho hl hv => h3 Z lb w vals ho hl ?_⟩
 simp only [AReps, ARep] at hv ⊢
 obtain ⟨u, us, e, hu, e2⟩ := hv
 refine ⟨u, us, e, ?_, e2⟩
 rcases view_cases hu with ⟨e3, _⟩ | h4
 ·exact absurd e3 h0
 ·exact h4
theorem kProgClN (l : List Ins) (hl : l.length ≤ 1000000) (h0 : 0 < l.length) : ACalls Tryz.prog 39 [.p (.nview 3 (l.map eIn))] [] (.p (.view 3 (l.map eIn))) [] := by
 refine yA (E := E) (fn := Tryz.f39) 8 [.tmp 2] rfl rfl rfl rfl (by decide) rfl rfl ?_
 repeat' (first
  | (with_reducible first | apply zY | apply zT | apply zM | apply zN | apply zO | refine chk_ok (by kernel_rfl) ?_)
  | ((with_reducible first | apply zP | apply zQ | apply zR | apply zL) <;> intro h <;> try (exfalso; first | omega | exact h rfl | (revert h; decide) | (cases h; done)))
  | ((with_reducible show False); omega)
  | ((first | (with_reducible first | apply zW | apply zV | apply zU | apply zS | apply zX | show VX _ _ _ _ _ _ _ | show vstep _ _ _ _ _ | show vskip _ _ _ | show withV _ _) | ((with_reducible show endA _ _ _ _ _ _ _); simp -implicitDefEqProofs only [endA]) | (with_reducible first | refine zB default (by first | omega | (simp only [LN]; omega)) (by first | omega | (simp only [LN]; omega)) ?_ | refine zC default (by first | omega | (simp only [LN]; omega)) ?_ | refine And.intro (by first | decide | omega | assumption | (simp only [LN]; omega)) ?_) | ((with_reducible show pickE _ _ _); first | refine zA _ ⟨by omega, by rfl⟩ ?_ | refine zA _ (by rfl) ?_) | fail); try simp -dsimp -implicitDefEqProofs (maxSteps := 1000000) (disch := first | omega | (simp only [LN]; omega)) only [go_sem])
  | fail)
 all_goals first | omega | (simp; done)
theorem kProgCl (l : List Ins) (hl : l.length ≤ 1000000) (h0 : 0 < l.length) : ACalls Tryz.prog 39 [.p (.view 3 (l.map eIn))] [] (.p (.view 3 (l.map eIn))) [] :=
 acalls_view (by cases l with | nil => simp at h0 | cons _ _ => simp) (kProgClN l hl h0)
end Go.Proofs.YtegekpjkbedngaaGreat
