/- Contracts of functions of this program, and the plain facts that they rest on. No conditions. -/
import Derived.Test.YtcnbngflehiphaaDoorDvT0Q
import Derived.Test.YtcnbngflehiphaaDoorDvSQ
import Derived.Test.YtcnbngflehiphaaDoorDvRQ
import Derived.Test.YtcnbngflehiphaaDoorDvHQ
import Derived.Test.YtcnbngflehiphaaDoorDvIQ
import Derived.Test.YtcnbngflehiphaaDoorD7
set_option linter.unusedSimpArgs false
set_option linter.unusedVariables false
namespace Go.Proofs.YtcnbngflehiphaaDoor
open Go Go.Ab
attribute [local irreducible] callK callF loopQ vstep vskip pickE hideP
attribute [local go_sem] eI
set_option maxRecDepth 100000
def eSt (x : Int × Int × Int) : PV := .agg [.v (.int .u8 x.1), .v (.int .u8 x.2.1), .v (.int .u64 x.2.2)]
attribute [local go_sem] eU eC eSt deO peO cuO liO thO hiO noO
theorem store_n (A : Dv) (k : Nat) (o v : Int) : (A.store k o v).n = A.n := by
 unfold Dv.store; split
 ·exact (cnt_p A k _).1
 ·exact (cnt_p A k _).1
theorem flush_n (A : Dv) (k : Nat) (o : Int) : (A.flush k o).n = A.n := by
 unfold Dv.flush; split
 ·exact (cnt_p A k _).1
 ·exact (cnt_p A k _).1
theorem fence_n (A : Dv) (k : Nat) : (A.fence k).n = A.n := by
 unfold Dv.fence; split
 ·exact (cnt_p A k _).1
 ·exact (cnt_p A k _).1
set_option maxRecDepth 100000 in
set_option maxHeartbeats 4000000 in
theorem c12 (p0 : List UInt8) (l : List (Int × Int × Int)) (hl : ∀ x, x ∈ l → (0 ≤ x.1 ∧ x.1 ≤ 255) ∧ (0 ≤ x.2.1 ∧ x.2.1 ≤ 255) ∧ 0 ≤ x.2.2 ∧ x.2.2 ≤ 18446744073709551615) (c : List UInt8) : PCalls Tryd.prog 12 [.view 1 (p0.map eB), .view 3 (l.map eSt), .view 1 (c.map eB)] (.v (.bool true)) := by
 refine pcalls_facts ⟨_, rfl, rfl, by decide⟩ fun hf => ?_
 simp only [go_sem, big] at hf
 refine pcalls_of (E := E) (fn := Tryd.f12) 116 [.tmp 6] rfl rfl rfl rfl (by decide) rfl ?_
 have k18 := c18 p0
 have k20 := c20 (wholeM p0) 4 (by decide)
 obtain ⟨p, hp⟩ : ∃ p, p = rM (wholeM p0) (64 * 4) := ⟨_, rfl⟩
 have hpl : p.length = 64 * 4 := by rw [hp, rM_eq]; simp [zerosM]; omega
 rw [← hp] at k20
 by_cases hbig : 40 < l.length ∨ 20 < c.length
 ·repeat' (first
   | (with_reducible first | refine r_seq ?_ | refine r_block ?_ | refine fork_not ?_ | refine fork_and ?_ | refine fork_or ?_ | refine chk_ok (by kernel_rfl) ?_)
   | ((with_reducible first | refine fork_dec ?_ ?_ | refine fork_eq ?_ ?_ | refine fork_ne ?_ ?_ | refine fork_intro ?_ ?_) <;> intro h <;> try (exfalso; first | omega | exact h rfl | (revert h; decide) | (cases h; done)))
   | ((with_reducible show False); omega)
   | ((first | (with_reducible first | refine r_exit ?_ | refine r_skip ?_ | refine r_cond ?_ | refine r_region ?_ | refine r_ret ?_ | show VX _ _ _ _ _ _ _ | show vstep _ _ _ _ _ | show vskip _ _ _ | show withV _ _) | ((with_reducible show endA _ _ _ _ _ _ _); simp -implicitDefEqProofs only [endA]) | (with_reducible first | refine pick_viewG default (by first | omega | (simp only [LN]; omega)) (by first | omega | (simp only [LN]; omega)) ?_ | refine pick_own default (by first | omega | (simp only [LN]; omega)) ?_ | refine And.intro (by first | decide | omega | assumption | (simp only [LN]; omega)) ?_) | ((with_reducible apply callK_pure); (exact c13)) | ((with_reducible apply callF_lend); (exact c13); rfl) | ((with_reducible apply callF_go); (exact c13)) | ((with_reducible show pickE _ _ _); first | refine pickE_intro _ ⟨by omega, by rfl⟩ ?_ | refine pickE_intro _ (by rfl) ?_) | fail); try simp -dsimp -implicitDefEqProofs (maxSteps := 1000000) (disch := first | omega | (simp only [LN]; omega)) only [go_sem])
   | fail)
  all_goals (exfalso; omega)
 ·have kf := dFrom6 p 4 hpl (by decide)
  have kt := dThread6 (Dv.fresh 4 (fW p (8 * 4) p.length)) J0 0 (by decide)
  repeat' (first
   | (with_reducible first | refine r_seq ?_ | refine r_block ?_ | refine fork_not ?_ | refine fork_and ?_ | refine fork_or ?_ | refine chk_ok (by kernel_rfl) ?_)
   | ((with_reducible first | refine fork_dec ?_ ?_ | refine fork_eq ?_ ?_ | refine fork_ne ?_ ?_ | refine fork_intro ?_ ?_) <;> intro h <;> try (exfalso; first | omega | exact h rfl | (revert h; decide) | (cases h; done)))
   | ((with_reducible show False); omega)
   | ((first | (with_reducible first | refine r_exit ?_ | refine r_skip ?_ | refine r_cond ?_ | refine r_region ?_ | refine r_ret ?_ | show VX _ _ _ _ _ _ _ | show vstep _ _ _ _ _ | show vskip _ _ _ | show withV _ _) | ((with_reducible show endA _ _ _ _ _ _ _); simp -implicitDefEqProofs only [endA]) | (with_reducible first | refine pick_viewG default (by first | omega | (simp only [LN]; omega)) (by first | omega | (simp only [LN]; omega)) ?_ | refine pick_own default (by first | omega | (simp only [LN]; omega)) ?_ | refine And.intro (by first | decide | omega | assumption | (simp only [LN]; omega)) ?_) | ((with_reducible apply callK_pure); (first | exact c13 | exact k18 | exact k20 | fail)) | ((with_reducible apply callF_lend); (first | exact c13 | exact k18 | exact k20 | fail); rfl) | ((with_reducible apply callF_go); (first | exact c13 | exact k18 | exact k20 | fail)) | (with_reducible first | apply callK_lent | apply callF_lent | apply hideP_own) | ((with_reducible apply callA_go); (first | exact kf | exact kt | fail)) | ((with_reducible show pickE _ _ _); first | refine pickE_intro _ ⟨by omega, by rfl⟩ ?_ | refine pickE_intro _ (by rfl) ?_) | fail); try simp -dsimp -implicitDefEqProofs (maxSteps := 1000000) (disch := first | omega | (simp only [LN]; omega)) only [go_sem])
   | fail)
  refine r_loopA (α := Nat × Dv × (Nat → List (Int × Int))) [1, 2, 47] (fun x b => [(48, aI x.1), (7, .loc 30 0), (9, .loc 34 0)]) (fun x b => []) (fun x => [deO x.2.1 31 32 33 34, peO x.2.1, cuO x.2.1, liO x.2.1 x.2.2 42, thO x.2.1 0 30 48, thO x.2.1 1 30 48, thO x.2.1 2 30 48, thO x.2.1 3 30 48, thO x.2.1 4 30 48, thO x.2.1 5 30 48, thO x.2.1 6 30 48, thO x.2.1 7 30 48, hiO x.2.1 x.2.2 0, hiO x.2.1 x.2.2 1, hiO x.2.1 x.2.2 2, hiO x.2.1 x.2.2 3, hiO x.2.1 x.2.2 4, hiO x.2.1 x.2.2 5, noO x.2.1 0, noO x.2.1 1, noO x.2.1 2, noO x.2.1 3, noO x.2.1 4, noO x.2.1 5, noO x.2.1 6, noO x.2.1 7]) (fun x => x.1 ≤ l.length ∧ Inv x.2.1 x.2.2 x.1 ∧ x.2.1.n = 4) (fun x => l.length - x.1) ((0, Dv.fresh 4 (fW p (8 * 4) p.length), J0)) ?h0_1 ?hs0_1 ?I_1 ?hI_1 ?round_1
  case hI_1 => intro x; (simp -dsimp -implicitDefEqProofs (maxSteps := 1000000) (disch := first | omega | (simp only [LN]; omega)) only [go_sem]) <;> exact rfl
  case hs0_1 => refine wk_auto ?_; (simp -dsimp -implicitDefEqProofs (maxSteps := 1000000) (disch := first | omega | (simp only [LN]; omega)) only [go_sem]) <;> (try omega)
  case h0_1 => exact ⟨Nat.zero_le _, Inv.fresh 4 _ (by decide) (by decide) (fW_len _ _ _), rfl⟩
  case round_1 =>
   rintro ⟨i, D, J⟩ ⟨h1, hI, hn4⟩
   simp only at h1 hI hn4
   have hil : i ≤ 40 := by omega
   by_cases hi : i < l.length
   ·have hx := hl (l.getD i default) (by rw [List.getD_eq_getElem?_getD, List.getElem?_eq_getElem hi]; exact List.getElem_mem _)
    have hw0 : 0 ≤ 8 * ((l.getD i default).2.1 % 32) ∧ 8 * ((l.getD i default).2.1 % 32) ≤ 248 := by omega
    have e1 : (l.getD i default).2.1.tmod 32 = (l.getD i default).2.1 % 32 := Int.tmod_eq_emod_of_nonneg hx.2.1.1
    have e2 : (l.getD i default).1.tmod 4 = (l.getD i default).1 % 4 := Int.tmod_eq_emod_of_nonneg hx.1.1
    have e3 : IntKind.u64.wrap ((l.getD i default).2.1 % 32) = (l.getD i default).2.1 % 32 := by rw [IntKind.wrap_u64]; omega
    have e4 : IntKind.u64.wrap (8 * ((l.getD i default).2.1 % 32)) = 8 * ((l.getD i default).2.1 % 32) := by rw [IntKind.wrap_u64]; omega
    obtain ⟨o, ho⟩ : ∃ o, o = 8 * ((l.getD i default).2.1 % 32) := ⟨_, rfl⟩
    rw [← ho] at e4 hw0
    have ho := ho.symm
    have hjl := hI.jl (by omega)
    have kfl := tFlush D J 0 (by decide) hI.wf o (by omega)
    have kfe := tFence0 D J hI.wf (hI.no 0 (by decide)) hI.jo
    have kst := tStore D J 0 (by decide) hI.wf hjl o (l.getD i default).2.2 (by omega) hx.2.2
    repeat' (first
     | (with_reducible first | refine r_seq ?_ | refine r_block ?_ | refine fork_not ?_ | refine fork_and ?_ | refine fork_or ?_ | refine chk_ok (by kernel_rfl) ?_)
     | ((with_reducible first | refine fork_dec ?_ ?_ | refine fork_eq ?_ ?_ | refine fork_ne ?_ ?_ | refine fork_intro ?_ ?_) <;> intro h <;> try (exfalso; first | omega | exact h rfl | (revert h; decide) | (cases h; done)))
     | ((with_reducible show False); omega)
     | ((with_reducible first | refine r_gr0 [46, 47] (by with_unfolding_all exact rfl) ?_ | refine r_gr1 [46, 47] (by with_unfolding_all exact rfl) ?_ | refine r_gr2 [46, 47] (by with_unfolding_all exact rfl) ?_ | refine r_gr3 [46, 47] (by with_unfolding_all exact rfl) ?_ | refine r_gr4 [46, 47] (by with_unfolding_all exact rfl) ?_ | refine r_gr5 [46, 47] (by with_unfolding_all exact rfl) ?_ | refine r_gr6 [46, 47] (by with_unfolding_all exact rfl) ?_ | refine r_gr7 [46, 47] (by with_unfolding_all exact rfl) ?_ | refine r_gr8 [46, 47] (by with_unfolding_all exact rfl) ?_ | refine r_gr9 [46, 47] (by with_unfolding_all exact rfl) ?_ | refine r_gr10 [46, 47] (by with_unfolding_all exact rfl) ?_); simp -dsimp -implicitDefEqProofs (maxSteps := 1000000) (disch := first | omega | (simp only [LN, e1, e2, e3, e4, ho]; omega)) only [go_sem, e1, e2, e3, e4, ho])
     | ((first | (with_reducible first | refine r_exit ?_ | refine r_skip ?_ | refine r_cond ?_ | refine r_region ?_ | refine r_ret ?_ | show VX _ _ _ _ _ _ _ | show vstep _ _ _ _ _ | show vskip _ _ _ | show withV _ _) | ((with_reducible show endA _ _ _ _ _ _ _); simp -implicitDefEqProofs only [endA]) | (with_reducible first | refine pick_viewG default (by first | omega | (simp only [LN, e1, e2, e3, e4, ho]; omega)) (by first | omega | (simp only [LN, e1, e2, e3, e4, ho]; omega)) ?_ | refine pick_own default (by first | omega | (simp only [LN, e1, e2, e3, e4, ho]; omega)) ?_ | refine And.intro (by first | decide | omega | assumption | (simp only [LN, e1, e2, e3, e4, ho]; omega)) ?_) | (with_reducible first | apply callK_lent | apply callF_lent | apply hideP_own) | ((with_reducible apply callA_go); (first | exact kfl | fail)) | ((with_reducible apply callX_go); (first | exact kfe | exact kst | fail); intro gq) | ((with_reducible show pickE _ _ _); first | refine pickE_intro _ ⟨by omega, by rfl⟩ ?_ | refine pickE_intro _ (by rfl) ?_) | fail); try simp -dsimp -implicitDefEqProofs (maxSteps := 1000000) (disch := first | omega | (simp only [LN, e1, e2, e3, e4, ho]; omega)) only [go_sem, e1, e2, e3, e4, ho])
     | fail)
    ·refine loopQ_next (i + 1, D.flush 0 o, J) ⟨by show i + 1 ≤ _; omega, (hI.flush 0 (by omega)).le (by show i ≤ i + 1; omega), by show (D.flush 0 o).n = 4; rw [flush_n]; exact hn4⟩ (by show l.length - (i + 1) < l.length - i; omega) ?_
     simp -dsimp -implicitDefEqProofs (maxSteps := 1000000) (disch := first | omega | (simp only [LN]; omega)) only [go_sem]
     try trivial
    ·refine loopQ_next (i + 1, D.fence 0, gq.1) ⟨by show i + 1 ≤ _; omega, (hI.fence 0 (by decide) gq.2).le (by show i ≤ i + 1; omega), by show (D.fence 0).n = 4; rw [fence_n]; exact hn4⟩ (by show l.length - (i + 1) < l.length - i; omega) ?_
     simp -dsimp -implicitDefEqProofs (maxSteps := 1000000) (disch := first | omega | (simp only [LN]; omega)) only [go_sem]
     try trivial
    ·refine loopQ_next (i + 1, D.store 0 o (l.getD i default).2.2, jsto D J 0 o gq) ⟨by show i + 1 ≤ _; omega, hI.store (by omega) 0 (by omega) hx.2.2 gq, by show (D.store 0 o _).n = 4; rw [store_n]; exact hn4⟩ (by show l.length - (i + 1) < l.length - i; omega) ?_
     simp -dsimp -implicitDefEqProofs (maxSteps := 1000000) (disch := first | omega | (simp only [LN]; omega)) only [go_sem]
     try trivial
   ·obtain rfl : i = l.length := by omega
    have hjl := hI.jl (by omega)
    have h64 : 64 * D.n = 64 * 4 := by rw [hn4]
    have kcr := dCrash6 D J hI.wf hjl c (by omega)
    have kim := dImageC D J hI.wf hjl c (by omega)
    have hwc : WF (D.crash c) := WF.fresh _ _ hI.wf.n0 hI.wf.n6 (fW_len _ _ _)
    have kof := dOfI (D.crash c) J0 hwc
    have eq : pB (D.crash c).per (64 * (D.crash c).n) = pB (imgC D c) (64 * D.n) := pB_fW _ D.n _ (pB_len _ _) rfl
    rw [eq] at kof
    have kod := dOfI D J hI.wf
    have kpe := dPers6 D J hI.wf
    rw [byL_pB, eC_eB] at kpe
    rw [eC_eB] at kim kcr
    have kdi := dDirty6 (D.crash c) J0 hwc
    have edi : dirL (D.crash c) (D.crash c).n = [] := by unfold dirL; rw [List.filter_eq_nil_iff]; intro a _; simp [Dv.crash, Dv.fresh]
    rw [edi] at kdi
    have hq := pB_len (imgC D c) (64 * D.n)
    have hq2 := pB_len D.per (64 * D.n)
    generalize pB (imgC D c) (64 * D.n) = q at *
    have k14 := c14 q
    rw [show newM q = q from if_pos (by omega), show newE q = 0 by unfold newE; rw [if_neg (by omega), if_neg (by omega)]] at k14
    repeat' (first
     | (with_reducible first | refine r_seq ?_ | refine r_block ?_ | refine fork_not ?_ | refine fork_and ?_ | refine fork_or ?_ | refine chk_ok (by kernel_rfl) ?_)
     | ((with_reducible first | refine fork_dec ?_ ?_ | refine fork_eq ?_ ?_ | refine fork_ne ?_ ?_ | refine fork_intro ?_ ?_) <;> intro h <;> try (exfalso; first | omega | exact h rfl | (revert h; decide) | (cases h; done)))
     | ((with_reducible show False); omega)
     | ((first | (with_reducible first | refine r_exit ?_ | refine r_skip ?_ | refine r_cond ?_ | refine r_region ?_ | refine r_ret ?_ | show VX _ _ _ _ _ _ _ | show vstep _ _ _ _ _ | show vskip _ _ _ | show withV _ _) | ((with_reducible show endA _ _ _ _ _ _ _); simp -implicitDefEqProofs only [endA]) | (with_reducible first | refine pick_viewG default (by first | omega | (simp only [LN]; omega)) (by first | omega | (simp only [LN]; omega)) ?_ | refine pick_own default (by first | omega | (simp only [LN]; omega)) ?_ | refine And.intro (by first | decide | omega | assumption | (simp only [LN]; omega)) ?_) | ((with_reducible apply callK_pure); (first | exact k14 | exact c21 q q | exact c16 (pB D.per (64 * D.n)) (pB D.per (64 * D.n)) (by omega) | fail)) | ((with_reducible apply callF_lend); (first | exact k14 | exact c21 q q | exact c16 (pB D.per (64 * D.n)) (pB D.per (64 * D.n)) (by omega) | fail); rfl) | ((with_reducible apply callF_go); (first | exact k14 | exact c21 q q | exact c16 (pB D.per (64 * D.n)) (pB D.per (64 * D.n)) (by omega) | fail)) | (with_reducible first | apply callK_lent | apply callF_lent | apply hideP_own) | ((with_reducible apply callA_go); (first | exact kcr | exact kim | exact kof | exact kod | exact kpe | exact kdi | fail)) | ((with_reducible show pickE _ _ _); first | refine pickE_intro _ ⟨by omega, by rfl⟩ ?_ | refine pickE_intro _ (by rfl) ?_) | fail); try simp -dsimp -implicitDefEqProofs (maxSteps := 1000000) (disch := first | omega | (simp only [LN]; omega)) only [go_sem])
     | fail)
    all_goals rfl
end Go.Proofs.YtcnbngflehiphaaDoor