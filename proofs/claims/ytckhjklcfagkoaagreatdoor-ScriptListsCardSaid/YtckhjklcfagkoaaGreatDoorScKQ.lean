/- Contracts of functions of this program, and the plain facts that they rest on. No conditions. -/
import Derived.Test.YtckhjklcfagkoaaGreatDoorScJQ
set_option linter.unusedSimpArgs false
set_option linter.unusedVariables false
namespace Go.Proofs.YtckhjklcfagkoaaGreatDoor
open Go Go.Ab
attribute [local irreducible] callK callF loopQ vstep vskip pickE hideP
set_option maxRecDepth 100000
attribute [local go_sem] eE eU deO peO cuO liO thO hiO noO
theorem cnt_off {A : Dv} {k : Nat} {v : Bool} (h : A.cntB v = true) : (A.cnt k v).off = false := by
 simp only [Dv.cntB, Bool.and_eq_true, Bool.not_eq_true', Bool.and_eq_false_iff] at h
 obtain ⟨h1, h2, h3⟩ := h
 unfold Dv.cnt
 rw [h1, h2]
 simp only [Bool.false_eq_true, if_false, Bool.true_eq_false]
 split
 ·rename_i ha
  rw [ha] at h3
  simp only [Bool.true_eq_false, decide_eq_false_iff_not, false_or] at h3
  rw [if_neg h3]
 ·rfl
theorem cas_off {A : Dv} {k : Nat} {o w v : Int} (h : A.casB o w = true) : (A.cas k o w v).off = false ∧ A.isW o = true := by
 unfold Dv.cas
 rw [if_pos h]
 unfold Dv.casB at h
 simp only [Bool.and_eq_true] at h
 exact ⟨cnt_off h.1, cntB_of h.1⟩
set_option maxRecDepth 100000 in
set_option maxHeartbeats 4000000 in
theorem dStep2 (A : Dv) (J : Nat → List (Int × Int)) (N : Nat) (h : Inv A J N) (hN : N < 1000000000) (x : Ev) (R : Rng x) (hv : okE x = true) (hk : x.k = 2) : ACallsX Tryz.prog 11 [.loc 0 0, .p (eE x)] [deO A 1 2 3 4, peO A, cuO A, liO A J 12, thO A 0 0 18, thO A 1 0 18, thO A 2 0 18, thO A 3 0 18, thO A 4 0 18, thO A 5 0 18, thO A 6 0 18, thO A 7 0 18, hiO A J 0, hiO A J 1, hiO A J 2, hiO A J 3, hiO A J 4, hiO A J 5, noO A 0, noO A 1, noO A 2, noO A 3, noO A 4, noO A 5, noO A 6, noO A 7] (fun g : { J2 : Nat → List (Int × Int) // Inv (A.step x) J2 (N + 1) } => .tup [.loc 0 0, .p (.v (.bool (A.stepB x))), .p (.v (.int .i64 (A.stepE x)))]) (fun g : { J2 : Nat → List (Int × Int) // Inv (A.step x) J2 (N + 1) } => [deO (A.step x) 1 2 3 4, peO (A.step x), cuO (A.step x), liO (A.step x) g.1 26, thO (A.step x) 0 0 18, thO (A.step x) 1 0 18, thO (A.step x) 2 0 18, thO (A.step x) 3 0 18, thO (A.step x) 4 0 18, thO (A.step x) 5 0 18, thO (A.step x) 6 0 18, thO (A.step x) 7 0 18, .dead, .dead, .dead, .dead, .dead, .dead, noO (A.step x) 0, noO (A.step x) 1, noO (A.step x) 2, noO (A.step x) 3, noO (A.step x) 4, noO (A.step x) 5, noO (A.step x) 6, noO (A.step x) 7, hiO (A.step x) g.1 0, hiO (A.step x) g.1 1, hiO (A.step x) g.1 2, hiO (A.step x) g.1 3, hiO (A.step x) g.1 4, hiO (A.step x) g.1 5]) := by
 refine acallsx_of (E := E) (fn := Tryz.f11) 95 [.tmp 4, .tmp 5, .tmp 6] rfl rfl rfl rfl (by decide) rfl (fun _ => rfl) ?_
 have kv := sValid x (by have := okE_t hv; unfold okK at this; omega)
 rw [hv] at kv
 have hro := R.o
 have hrv := R.v
 have hrw := R.w
 obtain ⟨e, h1, h2⟩ := ev_2 (okE_t hv) hk
 obtain ⟨t, ht⟩ := Int.eq_ofNat_of_zero_le h1
 have ht8 : t < 8 := by omega
 rw [ht] at e
 generalize x.o = o at *
 generalize x.v = v at *
 generalize x.w = w at *
 subst e
 have e1 : A.step ⟨2, (t : Int), o, v, w, 0, 0, []⟩ = A.cas t o w v := by unfold Dv.step; rw [hv]; rfl
 have e2 : A.stepB ⟨2, (t : Int), o, v, w, 0, 0, []⟩ = A.casB o w := by unfold Dv.stepB; rw [hv]; rfl
 have e3 : A.stepE ⟨2, (t : Int), o, v, w, 0, 0, []⟩ = if (A.cas t o w v).off = true then 3 else if A.isW o = true then 0 else 2 := by unfold Dv.stepE; rw [hv, e1]; simp
 have kt := dThread6 A J t ht8
 have ks := tCAS6 A J t ht8 h.wf (h.jl (by omega)) o w v hro hrv
 have hI := fun g => h.cas hN t (w := w) hro.1 hrv g
 have hn := cas_n A t o w v
 have h6 := h.wf.n6
 have hco := cas_off (A := A) (k := t) (o := o) (w := w) (v := v)
 have kw := fun g => dWordS (A.cas t o w v) (jcas A J t o w g) (by omega) o hro
 rw [isW_n hn] at kw
 have kf := fun g => dOff6 (A.cas t o w v) (jcas A J t o w g)
 generalize hB : A.cas t o w v = B at *
 generalize hw : A.isW o = iw at *
 generalize hcb : A.casB o w = cb at *
 repeat' (first
  | (with_reducible first | refine r_seq ?_ | refine r_block ?_ | refine fork_not ?_ | refine fork_and ?_ | refine fork_or ?_ | refine chk_ok (by kernel_rfl) ?_)
  | ((with_reducible first | refine fork_dec ?_ ?_ | refine fork_eq ?_ ?_ | refine fork_ne ?_ ?_ | refine fork_intro ?_ ?_) <;> intro h <;> try (exfalso; first | omega | exact h rfl | (revert h; decide) | (cases h; done)))
  | ((with_reducible show False); omega)
  | ((with_reducible first | refine r_gr0 [41] (by with_unfolding_all exact rfl) ?_ | refine r_gr1 [41] (by with_unfolding_all exact rfl) ?_ | refine r_gr2 [41] (by with_unfolding_all exact rfl) ?_ | refine r_gr3 [41] (by with_unfolding_all exact rfl) ?_ | refine r_gr4 [41] (by with_unfolding_all exact rfl) ?_ | refine r_gr5 [41] (by with_unfolding_all exact rfl) ?_ | refine r_gr6 [41] (by with_unfolding_all exact rfl) ?_ | refine r_gr7 [41] (by with_unfolding_all exact rfl) ?_ | refine r_gr8 [41] (by with_unfolding_all exact rfl) ?_ | refine r_gr9 [41] (by with_unfolding_all exact rfl) ?_ | refine r_gr10 [41] (by with_unfolding_all exact rfl) ?_); simp -dsimp -implicitDefEqProofs (maxSteps := 1000000) (disch := first | omega | (simp only [LN]; omega)) only [go_sem])
  | ((first | (with_reducible first | refine r_exit ?_ | refine r_skip ?_ | refine r_cond ?_ | refine r_region ?_ | refine r_ret ?_ | show VX _ _ _ _ _ _ _ | show vstep _ _ _ _ _ | show vskip _ _ _ | show withV _ _) | ((with_reducible show endA _ _ _ _ _ _ _); simp -implicitDefEqProofs only [endA]) | (with_reducible first | refine pick_viewG default (by first | omega | (simp only [LN]; omega)) (by first | omega | (simp only [LN]; omega)) ?_ | refine pick_own default (by first | omega | (simp only [LN]; omega)) ?_ | refine And.intro (by first | decide | omega | assumption | (simp only [LN]; omega)) ?_) | ((with_reducible apply callK_pure); (exact kv)) | ((with_reducible apply callF_lend); (exact kv); rfl) | ((with_reducible apply callF_go); (exact kv)) | (with_reducible first | apply callK_lent | apply callF_lent | apply hideP_own) | ((with_reducible apply callA_go); (first | exact kt | exact kw _ | exact kf _ | fail)) | ((with_reducible apply callX_go); (first | exact ks | fail); intro gq) | ((with_reducible show pickE _ _ _); first | refine pickE_intro _ ⟨by omega, by rfl⟩ ?_ | refine pickE_intro _ (by rfl) ?_) | fail); try simp -dsimp -implicitDefEqProofs (maxSteps := 1000000) (disch := first | omega | (simp only [LN]; omega)) only [go_sem])
  | fail)
 all_goals
  (refine endX_i (⟨jcas A J t o w gq, by rw [e1]; exact hI gq⟩) ?_; simp -implicitDefEqProofs only [endA]; (simp -dsimp -implicitDefEqProofs (maxSteps := 1000000) (disch := first | omega | (simp only [LN, e1, e2, e3]; omega)) only [go_sem, e1, e2, e3]; try trivial))
  all_goals first | (simp [*]; done) | (cases cb <;> simp_all; done)
set_option maxRecDepth 100000 in
set_option maxHeartbeats 4000000 in
theorem dStep3 (A : Dv) (J : Nat → List (Int × Int)) (N : Nat) (h : Inv A J N) (hN : N < 1000000000) (x : Ev) (R : Rng x) (hv : okE x = true) (hk : x.k = 3) : ACallsX Tryz.prog 11 [.loc 0 0, .p (eE x)] [deO A 1 2 3 4, peO A, cuO A, liO A J 12, thO A 0 0 18, thO A 1 0 18, thO A 2 0 18, thO A 3 0 18, thO A 4 0 18, thO A 5 0 18, thO A 6 0 18, thO A 7 0 18, hiO A J 0, hiO A J 1, hiO A J 2, hiO A J 3, hiO A J 4, hiO A J 5, noO A 0, noO A 1, noO A 2, noO A 3, noO A 4, noO A 5, noO A 6, noO A 7] (fun g : { J2 : Nat → List (Int × Int) // Inv (A.step x) J2 (N + 1) } => .tup [.loc 0 0, .p (.v (.bool (A.stepB x))), .p (.v (.int .i64 (A.stepE x)))]) (fun g : { J2 : Nat → List (Int × Int) // Inv (A.step x) J2 (N + 1) } => [deO (A.step x) 1 2 3 4, peO (A.step x), cuO (A.step x), liO (A.step x) g.1 26, thO (A.step x) 0 0 18, thO (A.step x) 1 0 18, thO (A.step x) 2 0 18, thO (A.step x) 3 0 18, thO (A.step x) 4 0 18, thO (A.step x) 5 0 18, thO (A.step x) 6 0 18, thO (A.step x) 7 0 18, .dead, .dead, .dead, .dead, .dead, .dead, noO (A.step x) 0, noO (A.step x) 1, noO (A.step x) 2, noO (A.step x) 3, noO (A.step x) 4, noO (A.step x) 5, noO (A.step x) 6, noO (A.step x) 7, hiO (A.step x) g.1 0, hiO (A.step x) g.1 1, hiO (A.step x) g.1 2, hiO (A.step x) g.1 3, hiO (A.step x) g.1 4, hiO (A.step x) g.1 5]) := by
 refine acallsx_of (E := E) (fn := Tryz.f11) 95 [.tmp 4, .tmp 5, .tmp 6] rfl rfl rfl rfl (by decide) rfl (fun _ => rfl) ?_
 have kv := sValid x (by have := okE_t hv; unfold okK at this; omega)
 rw [hv] at kv
 have hro := R.o
 have hrv := R.v
 obtain ⟨e, h1, h2⟩ := ev_3 (okE_t hv) hk
 obtain ⟨t, ht⟩ := Int.eq_ofNat_of_zero_le h1
 have ht8 : t < 8 := by omega
 rw [ht] at e
 generalize x.o = o at *
 subst e
 have e1 : A.step ⟨3, (t : Int), o, 0, 0, 0, 0, []⟩ = A.flush t o := by unfold Dv.step; rw [hv]; rfl
 have e2 : A.stepB ⟨3, (t : Int), o, 0, 0, 0, 0, []⟩ = false := by unfold Dv.stepB; rw [hv]; rfl
 have e3 : A.stepE ⟨3, (t : Int), o, 0, 0, 0, 0, []⟩ = if (A.flush t o).off = true then 3 else if decide (o < ((64 * (A.flush t o).n : Nat) : Int)) = true then 0 else 2 := by unfold Dv.stepE; rw [hv, e1, flush_n]; simp [Dv.isB]
 have kt := dThread6 A J t ht8
 have ks := tFlush A J t ht8 h.wf o hro
 have hI := h.flush t hro.1
 have hn := flush_n A t o
 have h6 := h.wf.n6
 have kz := dSize6 (A.flush t o) J (by omega)
 have kf := dOff6 (A.flush t o) J
 generalize hB : A.flush t o = B at *
 repeat' (first
  | (with_reducible first | refine r_seq ?_ | refine r_block ?_ | refine fork_not ?_ | refine fork_and ?_ | refine fork_or ?_ | refine chk_ok (by kernel_rfl) ?_)
  | ((with_reducible first | refine fork_dec ?_ ?_ | refine fork_eq ?_ ?_ | refine fork_ne ?_ ?_ | refine fork_intro ?_ ?_) <;> intro h <;> try (exfalso; first | omega | exact h rfl | (revert h; decide) | (cases h; done)))
  | ((with_reducible show False); omega)
  | ((first | (with_reducible first | refine r_exit ?_ | refine r_skip ?_ | refine r_cond ?_ | refine r_region ?_ | refine r_ret ?_ | show VX _ _ _ _ _ _ _ | show vstep _ _ _ _ _ | show vskip _ _ _ | show withV _ _) | ((with_reducible show endA _ _ _ _ _ _ _); simp -implicitDefEqProofs only [endA]) | (with_reducible first | refine pick_viewG default (by first | omega | (simp only [LN]; omega)) (by first | omega | (simp only [LN]; omega)) ?_ | refine pick_own default (by first | omega | (simp only [LN]; omega)) ?_ | refine And.intro (by first | decide | omega | assumption | (simp only [LN]; omega)) ?_) | ((with_reducible apply callK_pure); (exact kv)) | ((with_reducible apply callF_lend); (exact kv); rfl) | ((with_reducible apply callF_go); (exact kv)) | (with_reducible first | apply callK_lent | apply callF_lent | apply hideP_own) | ((with_reducible apply callA_go); (first | exact kt | exact ks | exact kz | exact kf | fail)) | ((with_reducible show pickE _ _ _); first | refine pickE_intro _ ⟨by omega, by rfl⟩ ?_ | refine pickE_intro _ (by rfl) ?_) | fail); try simp -dsimp -implicitDefEqProofs (maxSteps := 1000000) (disch := first | omega | (simp only [LN]; omega)) only [go_sem])
  | fail)
 all_goals
  (refine endX_i (⟨J, by rw [e1]; exact hI.le (by omega)⟩) ?_; simp -implicitDefEqProofs only [endA]; (simp -dsimp -implicitDefEqProofs (maxSteps := 1000000) (disch := first | omega | (simp only [LN, e1, e2, e3]; omega)) only [go_sem, e1, e2, e3]; try trivial))
  all_goals first | (simp [*]; done) | (simp_all; done)
end Go.Proofs.YtckhjklcfagkoaaGreatDoor