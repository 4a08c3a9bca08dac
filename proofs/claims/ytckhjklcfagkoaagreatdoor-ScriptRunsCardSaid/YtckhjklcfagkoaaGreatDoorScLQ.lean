/- Contracts of functions of this program, and the plain facts that they rest on. No conditions. -/
import Derived.Test.YtckhjklcfagkoaaGreatDoorJDvIQ
import Derived.Test.YtckhjklcfagkoaaGreatDoorDvRxQ
set_option linter.unusedSimpArgs false
set_option linter.unusedVariables false
namespace Go.Proofs.YtckhjklcfagkoaaGreatDoor
set_option maxHeartbeats 4000000
set_option maxRecDepth 100000
open Go Go.Ab
attribute [local irreducible] callK callF loopQ vstep vskip pickE hideP
attribute [local go_sem] eE eU deO peO cuO liO thO hiO noO
theorem dStep4 (A : Dv) (J : JT) (N : Nat) (h : Inv A J N) (hN : N < 1000000000) (x : Ev) (R : Rng x) (hv : okE x = true) (hk : x.k = 4) : ACallsX Tryz.prog 11 [.loc 0 0, .p (eE x)] (dvL A J) (fun g : { J2 : JT // Inv (A.step x) J2 (N + 1) } => .tup [.loc 0 0, .p (.v (.bool (A.stepB x))), .p (.v (.int .i64 (A.stepE x)))]) (fun g : { J2 : JT // Inv (A.step x) J2 (N + 1) } => (dv2 (A.step x) g.1)) := by
 refine yC (E := E) (fn := Tryz.f11) 95 [.tmp 4, .tmp 5, .tmp 6] rfl rfl rfl rfl (by decide) rfl (fun _ => rfl) ?_
 have kv := sValid x (by have := okE_t hv; unfold okK at this; omega)
 rw [hv] at kv
 have hro := R.o
 have hrv := R.v
 obtain ⟨e, h1, h2⟩ := ev_4 (okE_t hv) hk
 obtain ⟨t, ht⟩ := Int.eq_ofNat_of_zero_le h1
 have ht8 : t < 8 := by omega
 rw [ht] at e
 subst e
 have e1 : A.step ⟨4, (t : Int), 0, 0, 0, 0, 0, []⟩ = A.fence t := by unfold Dv.step; rw [hv]; rfl
 have e2 : A.stepB ⟨4, (t : Int), 0, 0, 0, 0, 0, []⟩ = false := by unfold Dv.stepB; rw [hv]; rfl
 have e3 : A.stepE ⟨4, (t : Int), 0, 0, 0, 0, 0, []⟩ = if (A.fence t).off = true then 3 else 0 := by unfold Dv.stepE; rw [hv, e1]; simp
 have kt := dThread6 A J t ht8
 have ks := tFence A J t ht8 h.wf (h.no t ht8) h.jo
 have hI := fun (J2 : JT) (hj : JOk (A.fence t) J2) => h.fence t ht8 hj
 have kf := fun J2 => dOff6 (A.fence t) J2
 generalize hB : A.fence t = B at *
 repeat' (first
  | (with_reducible first | apply zY | apply zT | apply zM | apply zN | apply zO | refine chk_ok (by kernel_rfl) ?_)
  | ((with_reducible first | apply zP | apply zQ | apply zR | apply zL) <;> intro h <;> try (exfalso; first | omega | exact h rfl | (revert h; decide) | (cases h; done)))
  | ((with_reducible show False); omega)
  | ((with_reducible first | refine r_gr0 [44] (by with_unfolding_all exact rfl) ?_ | refine r_gr1 [44] (by with_unfolding_all exact rfl) ?_ | refine r_gr2 [44] (by with_unfolding_all exact rfl) ?_ | refine r_gr3 [44] (by with_unfolding_all exact rfl) ?_ | refine r_gr4 [44] (by with_unfolding_all exact rfl) ?_ | refine r_gr5 [44] (by with_unfolding_all exact rfl) ?_ | refine r_gr6 [44] (by with_unfolding_all exact rfl) ?_ | refine r_gr7 [44] (by with_unfolding_all exact rfl) ?_ | refine r_gr8 [44] (by with_unfolding_all exact rfl) ?_ | refine r_gr9 [44] (by with_unfolding_all exact rfl) ?_ | refine r_gr10 [44] (by with_unfolding_all exact rfl) ?_); simp -dsimp -implicitDefEqProofs (maxSteps := 1000000) (disch := first | omega | (simp only [LN]; omega)) only [go_sem])
  | ((first | (with_reducible first | apply zW | apply zV | apply zU | apply zS | apply zX | show VX _ _ _ _ _ _ _ | show vstep _ _ _ _ _ | show vskip _ _ _ | show withV _ _) | ((with_reducible show endA _ _ _ _ _ _ _); simp -implicitDefEqProofs only [endA]) | (with_reducible first | refine zB default (by first | omega | (simp only [LN]; omega)) (by first | omega | (simp only [LN]; omega)) ?_ | refine zC default (by first | omega | (simp only [LN]; omega)) ?_ | refine And.intro (by first | decide | omega | assumption | (simp only [LN]; omega)) ?_) | ((with_reducible apply zD); (exact kv)) | ((with_reducible apply zE); (exact kv); rfl) | ((with_reducible apply zF); (exact kv)) | (with_reducible first | apply zG | apply zH | apply zI) | ((with_reducible apply zJ); (first | exact kt | exact kf _ | fail)) | ((with_reducible apply zK); (first | exact ks | fail); intro gq) | ((with_reducible show pickE _ _ _); first | refine zA _ ⟨by omega, by rfl⟩ ?_ | refine zA _ (by rfl) ?_) | fail); try simp -dsimp -implicitDefEqProofs (maxSteps := 1000000) (disch := first | omega | (simp only [LN]; omega)) only [go_sem])
  | fail)
 all_goals
  (refine endX_i (⟨gq.1, by rw [e1]; exact (hI gq.1 gq.2).le (by omega)⟩) ?_; simp -implicitDefEqProofs only [endA]; (simp -dsimp -implicitDefEqProofs (maxSteps := 1000000) (disch := first | omega | (simp only [LN, e1, e2, e3]; omega)) only [go_sem, e1, e2, e3]; try trivial))
  all_goals first | (simp [*]; done) | (simp_all; done)
theorem dStep5 (A : Dv) (J : JT) (N : Nat) (h : Inv A J N) (hN : N < 1000000000) (x : Ev) (R : Rng x) (hv : okE x = true) (hk : x.k = 5) : ACallsX Tryz.prog 11 [.loc 0 0, .p (eE x)] (dvL A J) (fun g : { J2 : JT // Inv (A.step x) J2 (N + 1) } => .tup [.loc 0 0, .p (.v (.bool (A.stepB x))), .p (.v (.int .i64 (A.stepE x)))]) (fun g : { J2 : JT // Inv (A.step x) J2 (N + 1) } => (dv2 (A.step x) g.1)) := by
 refine yC (E := E) (fn := Tryz.f11) 95 [.tmp 4, .tmp 5, .tmp 6] rfl rfl rfl rfl (by decide) rfl (fun _ => rfl) ?_
 have kv := sValid x (by have := okE_t hv; unfold okK at this; omega)
 rw [hv] at kv
 have hro := R.o
 have hrv := R.v
 obtain ⟨e, h1, h2⟩ := ev_5 (okE_t hv) hk
 generalize x.ln = ln at *
 generalize x.n = n at *
 subst e
 have e1 : A.step ⟨5, 0, 0, 0, 0, ln, n, []⟩ = A.wb ln n := by unfold Dv.step; rw [hv]; rfl
 have e2 : A.stepB ⟨5, 0, 0, 0, 0, ln, n, []⟩ = A.wbB ln n := by unfold Dv.stepB; rw [hv]; rfl
 have e3 : A.stepE ⟨5, 0, 0, 0, 0, ln, n, []⟩ = 0 := by unfold Dv.stepE; rw [hv]; simp
 have kt := dThread6 A J 0 (by decide)
 have ks := dWriteBack6 A J h.wf (h.jl (by omega)) ln n
 have hI := h.wb ln n
 generalize hB : A.wb ln n = B at *
 repeat' (first
  | (with_reducible first | apply zY | apply zT | apply zM | apply zN | apply zO | refine chk_ok (by kernel_rfl) ?_)
  | ((with_reducible first | apply zP | apply zQ | apply zR | apply zL) <;> intro h <;> try (exfalso; first | omega | exact h rfl | (revert h; decide) | (cases h; done)))
  | ((with_reducible show False); omega)
  | ((first | (with_reducible first | apply zW | apply zV | apply zU | apply zS | apply zX | show VX _ _ _ _ _ _ _ | show vstep _ _ _ _ _ | show vskip _ _ _ | show withV _ _) | ((with_reducible show endA _ _ _ _ _ _ _); simp -implicitDefEqProofs only [endA]) | (with_reducible first | refine zB default (by first | omega | (simp only [LN]; omega)) (by first | omega | (simp only [LN]; omega)) ?_ | refine zC default (by first | omega | (simp only [LN]; omega)) ?_ | refine And.intro (by first | decide | omega | assumption | (simp only [LN]; omega)) ?_) | ((with_reducible apply zD); (exact kv)) | ((with_reducible apply zE); (exact kv); rfl) | ((with_reducible apply zF); (exact kv)) | (with_reducible first | apply zG | apply zH | apply zI) | ((with_reducible apply zJ); (first | exact kt | exact ks | fail)) | ((with_reducible show pickE _ _ _); first | refine zA _ ⟨by omega, by rfl⟩ ?_ | refine zA _ (by rfl) ?_) | fail); try simp -dsimp -implicitDefEqProofs (maxSteps := 1000000) (disch := first | omega | (simp only [LN]; omega)) only [go_sem])
  | fail)
 all_goals
  (refine endX_i (⟨jwb A J ln n, by rw [e1]; exact hI.le (by omega)⟩) ?_; simp -implicitDefEqProofs only [endA]; (simp -dsimp -implicitDefEqProofs (maxSteps := 1000000) (disch := first | omega | (simp only [LN, e1, e2, e3]; omega)) only [go_sem, e1, e2, e3]; try trivial))
  all_goals first | (simp [*]; done) | (simp_all; done)
theorem dStep6 (A : Dv) (J : JT) (N : Nat) (h : Inv A J N) (hN : N < 1000000000) (x : Ev) (R : Rng x) (hv : okE x = true) (hk : x.k = 6) : ACallsX Tryz.prog 11 [.loc 0 0, .p (eE x)] (dvL A J) (fun g : { J2 : JT // Inv (A.step x) J2 (N + 1) } => .tup [.loc 0 0, .p (.v (.bool (A.stepB x))), .p (.v (.int .i64 (A.stepE x)))]) (fun g : { J2 : JT // Inv (A.step x) J2 (N + 1) } => (dv2 (A.step x) g.1)) := by
 refine yC (E := E) (fn := Tryz.f11) 95 [.tmp 4, .tmp 5, .tmp 6] rfl rfl rfl rfl (by decide) rfl (fun _ => rfl) ?_
 have kv := sValid x (by have := okE_t hv; unfold okK at this; omega)
 rw [hv] at kv
 have hro := R.o
 have hrv := R.v
 obtain ⟨e, h1, h2⟩ := ev_6 (okE_t hv) hk
 generalize x.n = n at *
 subst e
 have e1 : A.step ⟨6, 0, 0, 0, 0, 0, n, []⟩ = A.arm n := by unfold Dv.step; rw [hv]; rfl
 have e2 : A.stepB ⟨6, 0, 0, 0, 0, 0, n, []⟩ = false := by unfold Dv.stepB; rw [hv]; rfl
 have e3 : A.stepE ⟨6, 0, 0, 0, 0, 0, n, []⟩ = 0 := by unfold Dv.stepE; rw [hv]; simp
 have kt := dThread6 A J 0 (by decide)
 have ks := dArm6 A J n
 have hI := h.arm n
 generalize hB : A.arm n = B at *
 repeat' (first
  | (with_reducible first | apply zY | apply zT | apply zM | apply zN | apply zO | refine chk_ok (by kernel_rfl) ?_)
  | ((with_reducible first | apply zP | apply zQ | apply zR | apply zL) <;> intro h <;> try (exfalso; first | omega | exact h rfl | (revert h; decide) | (cases h; done)))
  | ((with_reducible show False); omega)
  | ((first | (with_reducible first | apply zW | apply zV | apply zU | apply zS | apply zX | show VX _ _ _ _ _ _ _ | show vstep _ _ _ _ _ | show vskip _ _ _ | show withV _ _) | ((with_reducible show endA _ _ _ _ _ _ _); simp -implicitDefEqProofs only [endA]) | (with_reducible first | refine zB default (by first | omega | (simp only [LN]; omega)) (by first | omega | (simp only [LN]; omega)) ?_ | refine zC default (by first | omega | (simp only [LN]; omega)) ?_ | refine And.intro (by first | decide | omega | assumption | (simp only [LN]; omega)) ?_) | ((with_reducible apply zD); (exact kv)) | ((with_reducible apply zE); (exact kv); rfl) | ((with_reducible apply zF); (exact kv)) | (with_reducible first | apply zG | apply zH | apply zI) | ((with_reducible apply zJ); (first | exact kt | exact ks | fail)) | ((with_reducible show pickE _ _ _); first | refine zA _ ⟨by omega, by rfl⟩ ?_ | refine zA _ (by rfl) ?_) | fail); try simp -dsimp -implicitDefEqProofs (maxSteps := 1000000) (disch := first | omega | (simp only [LN]; omega)) only [go_sem])
  | fail)
 all_goals
  (refine endX_i (⟨J, by rw [e1]; exact hI.le (by omega)⟩) ?_; simp -implicitDefEqProofs only [endA]; (simp -dsimp -implicitDefEqProofs (maxSteps := 1000000) (disch := first | omega | (simp only [LN, e1, e2, e3]; omega)) only [go_sem, e1, e2, e3]; try trivial))
  all_goals first | (simp [*]; done) | (simp_all; done)
theorem dStep7 (A : Dv) (J : JT) (N : Nat) (h : Inv A J N) (hN : N < 1000000000) (x : Ev) (hv : okE x = true) (hk : x.k = 7) : ACalls Tryz.prog 11 [.loc 0 0, .p (eE x)] (dvL A J) (.tup [.loc 26 0, .p (.v (.bool false)), .p (.v (.int .i64 0))]) (dvL A J ++ [deO (A.step x) 27 28 29 30, peO (A.step x), cuO (A.step x), liO (A.step x) J0 38, thO (A.step x) 0 26 44, thO (A.step x) 1 26 44, thO (A.step x) 2 26 44, thO (A.step x) 3 26 44, thO (A.step x) 4 26 44, thO (A.step x) 5 26 44, thO (A.step x) 6 26 44, thO (A.step x) 7 26 44, hiO (A.step x) J0 0, hiO (A.step x) J0 1, hiO (A.step x) J0 2, hiO (A.step x) J0 3, hiO (A.step x) J0 4, hiO (A.step x) J0 5, noO (A.step x) 0, noO (A.step x) 1, noO (A.step x) 2, noO (A.step x) 3, noO (A.step x) 4, noO (A.step x) 5, noO (A.step x) 6, noO (A.step x) 7]) := by
 refine yA (E := E) (fn := Tryz.f11) 95 [.tmp 4, .tmp 5, .tmp 6] rfl rfl rfl rfl (by decide) rfl rfl ?_
 have kv := sValid x (by have := okE_t hv; unfold okK at this; omega)
 rw [hv] at kv
 obtain ⟨e, h1⟩ := ev_7 (okE_t hv) hk
 generalize x.ch = ch at *
 subst e
 have e1 : A.step ⟨7, 0, 0, 0, 0, 0, 0, ch⟩ = A.crash ch := by unfold Dv.step; rw [hv]; rfl
 have kt := dThread6 A J 0 (by decide)
 have ks := dCrash6 A J h.wf (h.jl (by omega)) ch (by omega)
 rw [e1]
 generalize hB : A.crash ch = B at *
 repeat' (first
  | (with_reducible first | apply zY | apply zT | apply zM | apply zN | apply zO | refine chk_ok (by kernel_rfl) ?_)
  | ((with_reducible first | apply zP | apply zQ | apply zR | apply zL) <;> intro h <;> try (exfalso; first | omega | exact h rfl | (revert h; decide) | (cases h; done)))
  | ((with_reducible show False); omega)
  | ((first | (with_reducible first | apply zW | apply zV | apply zU | apply zS | apply zX | show VX _ _ _ _ _ _ _ | show vstep _ _ _ _ _ | show vskip _ _ _ | show withV _ _) | ((with_reducible show endA _ _ _ _ _ _ _); simp -implicitDefEqProofs only [endA]) | (with_reducible first | refine zB default (by first | omega | (simp only [LN]; omega)) (by first | omega | (simp only [LN]; omega)) ?_ | refine zC default (by first | omega | (simp only [LN]; omega)) ?_ | refine And.intro (by first | decide | omega | assumption | (simp only [LN]; omega)) ?_) | ((with_reducible apply zD); (exact kv)) | ((with_reducible apply zE); (exact kv); rfl) | ((with_reducible apply zF); (exact kv)) | (with_reducible first | apply zG | apply zH | apply zI) | ((with_reducible apply zJ); (first | exact kt | exact ks | fail)) | ((with_reducible show pickE _ _ _); first | refine zA _ ⟨by omega, by rfl⟩ ?_ | refine zA _ (by rfl) ?_) | fail); try simp -dsimp -implicitDefEqProofs (maxSteps := 1000000) (disch := first | omega | (simp only [LN]; omega)) only [go_sem])
  | fail)
end Go.Proofs.YtckhjklcfagkoaaGreatDoor
