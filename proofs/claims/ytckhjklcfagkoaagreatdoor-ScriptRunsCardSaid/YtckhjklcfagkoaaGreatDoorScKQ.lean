/- Contracts of functions of this program, and the plain facts that they rest on. No conditions. -/
import Derived.Test.YtckhjklcfagkoaaGreatDoorJDvIQ
set_option linter.unusedSimpArgs false
set_option linter.unusedVariables false
namespace Go.Proofs.YtckhjklcfagkoaaGreatDoor
set_option maxHeartbeats 4000000
set_option maxRecDepth 100000
open Go Go.Ab
attribute [local irreducible] callK callF loopQ vstep vskip pickE hideP
attribute [local go_sem] eE eU deO peO cuO liO thO hiO noO
theorem cnt_off {A : Dv} {k : Nat} {v : Bool} (h : A.cntB v = true) : (A.cnt k v).off = false := by
 simp only [Dv.cntB, Bool.and_eq_true, Bool.not_eq_true', Bool.and_eq_false_iff] at h
 obtain ⟨h1, h2, h3⟩ := h
 unfold Dv.cnt
 rw [h1, h2]
 simp only [Bool.false_eq_true, if_false, Bool.true_eq_false]
 split
 ·rename_i ha
  rw [ha] at h3
  simp only [Bool.true_eq_false, decide_eq_false_iff_not, false_or] at h3
  rw [if_neg h3]
 ·rfl
theorem cas_off {A : Dv} {k : Nat} {o w v : Int} (h : A.casB o w = true) : (A.cas k o w v).off = false ∧ A.isW o = true := by
 unfold Dv.cas
 rw [if_pos h]
 unfold Dv.casB at h
 simp only [Bool.and_eq_true] at h
 exact ⟨cnt_off h.1, cntB_of h.1⟩
theorem dStep2 (A : Dv) (J : JT) (N : Nat) (h : Inv A J N) (hN : N < 1000000000) (x : Ev) (R : Rng x) (hv : okE x = true) (hk : x.k = 2) : ACallsX Tryz.prog 11 [.loc 0 0, .p (eE x)] (dvL A J) (fun g : { J2 : JT // Inv (A.step x) J2 (N + 1) } => .tup [.loc 0 0, .p (.v (.bool (A.stepB x))), .p (.v (.int .i64 (A.stepE x)))]) (fun g : { J2 : JT // Inv (A.step x) J2 (N + 1) } => (dv2 (A.step x) g.1)) := by
 refine yC (E := E) (fn := Tryz.f11) 95 [.tmp 4, .tmp 5, .tmp 6] rfl rfl rfl rfl (by decide) rfl (fun _ => rfl) ?_
 have kv := sValid x (by have := okE_t hv; unfold okK at this; omega)
 rw [hv] at kv
 have hro := R.o
 have hrv := R.v
 have hrw := R.w
 obtain ⟨e, h1, h2⟩ := ev_2 (okE_t hv) hk
 obtain ⟨t, ht⟩ := Int.eq_ofNat_of_zero_le h1
 have ht8 : t < 8 := by omega
 rw [ht] at e
 generalize x.o = o at *
 generalize x.v = v at *
 generalize x.w = w at *
 subst e
 have e1 : A.step ⟨2, (t : Int), o, v, w, 0, 0, []⟩ = A.cas t o w v := by unfold Dv.step; rw [hv]; rfl
 have e2 : A.stepB ⟨2, (t : Int), o, v, w, 0, 0, []⟩ = A.casB o w := by unfold Dv.stepB; rw [hv]; rfl
 have e3 : A.stepE ⟨2, (t : Int), o, v, w, 0, 0, []⟩ = if (A.cas t o w v).off = true then 3 else if A.isW o = true then 0 else 2 := by unfold Dv.stepE; rw [hv, e1]; simp
 have kt := dThread6 A J t ht8
 have ks := tCAS6 A J t ht8 h.wf (h.jl (by omega)) o w v hro hrv
 have hI := fun g => h.cas hN t (w := w) hro.1 hrv g
 have hn := cas_n A t o w v
 have h6 := h.wf.n6
 have hco := cas_off (A := A) (k := t) (o := o) (w := w) (v := v)
 have kw := fun g => dWordS (A.cas t o w v) (jcas A J t o w g) (by omega) o hro
 rw [isW_n hn] at kw
 have kf := fun g => dOff6 (A.cas t o w v) (jcas A J t o w g)
 generalize hB : A.cas t o w v = B at *
 generalize hw : A.isW o = iw at *
 generalize hcb : A.casB o w = cb at *
 repeat' (first
  | (with_reducible first | apply zY | apply zT | apply zM | apply zN | apply zO | refine chk_ok (by kernel_rfl) ?_)
  | ((with_reducible first | apply zP | apply zQ | apply zR | apply zL) <;> intro h <;> try (exfalso; first | omega | exact h rfl | (revert h; decide) | (cases h; done)))
  | ((with_reducible show False); omega)
  | ((with_reducible first | refine r_gr0 [41] (by with_unfolding_all exact rfl) ?_ | refine r_gr1 [41] (by with_unfolding_all exact rfl) ?_ | refine r_gr2 [41] (by with_unfolding_all exact rfl) ?_ | refine r_gr3 [41] (by with_unfolding_all exact rfl) ?_ | refine r_gr4 [41] (by with_unfolding_all exact rfl) ?_ | refine r_gr5 [41] (by with_unfolding_all exact rfl) ?_ | refine r_gr6 [41] (by with_unfolding_all exact rfl) ?_ | refine r_gr7 [41] (by with_unfolding_all exact rfl) ?_ | refine r_gr8 [41] (by with_unfolding_all exact rfl) ?_ | refine r_gr9 [41] (by with_unfolding_all exact rfl) ?_ | refine r_gr10 [41] (by with_unfolding_all exact rfl) ?_); simp -dsimp -implicitDefEqProofs (maxSteps := 1000000) (disch := first | omega | (simp only [LN]; omega)) only [go_sem])
  | ((first | (with_reducible first | apply zW | apply zV | apply zU | apply zS | apply zX | show VX _ _ _ _ _ _ _ | show vstep _ _ _ _ _ | show vskip _ _ _ | show withV _ _) | ((with_reducible show endA _ _ _ _ _ _ _); simp -implicitDefEqProofs only [endA]) | (with_reducible first | refine zB default (by first | omega | (simp only [LN]; omega)) (by first | omega | (simp only [LN]; omega)) ?_ | refine zC default (by first | omega | (simp only [LN]; omega)) ?_ | refine And.intro (by first | decide | omega | assumption | (simp only [LN]; omega)) ?_) | ((with_reducible apply zD); (exact kv)) | ((with_reducible apply zE); (exact kv); rfl) | ((with_reducible apply zF); (exact kv)) | (with_reducible first | apply zG | apply zH | apply zI) | ((with_reducible apply zJ); (first | exact kt | exact kw _ | exact kf _ | fail)) | ((with_reducible apply zK); (first | exact ks | fail); intro gq) | ((with_reducible show pickE _ _ _); first | refine zA _ ⟨by omega, by rfl⟩ ?_ | refine zA _ (by rfl) ?_) | fail); try simp -dsimp -implicitDefEqProofs (maxSteps := 1000000) (disch := first | omega | (simp only [LN]; omega)) only [go_sem])
  | fail)
 all_goals
  (refine endX_i (⟨jcas A J t o w gq, by rw [e1]; exact hI gq⟩) ?_; simp -implicitDefEqProofs only [endA]; (simp -dsimp -implicitDefEqProofs (maxSteps := 1000000) (disch := first | omega | (simp only [LN, e1, e2, e3]; omega)) only [go_sem, e1, e2, e3]; try trivial))
  all_goals first | (simp [*]; done) | (cases cb <;> simp_all; done)
theorem dStep3 (A : Dv) (J : JT) (N : Nat) (h : Inv A J N) (hN : N < 1000000000) (x : Ev) (R : Rng x) (hv : okE x = true) (hk : x.k = 3) : ACallsX Tryz.prog 11 [.loc 0 0, .p (eE x)] (dvL A J) (fun g : { J2 : JT // Inv (A.step x) J2 (N + 1) } => .tup [.loc 0 0, .p (.v (.bool (A.stepB x))), .p (.v (.int .i64 (A.stepE x)))]) (fun g : { J2 : JT // Inv (A.step x) J2 (N + 1) } => (dv2 (A.step x) g.1)) := by
 refine yC (E := E) (fn := Tryz.f11) 95 [.tmp 4, .tmp 5, .tmp 6] rfl rfl rfl rfl (by decide) rfl (fun _ => rfl) ?_
 have kv := sValid x (by have := okE_t hv; unfold okK at this; omega)
 rw [hv] at kv
 have hro := R.o
 have hrv := R.v
 obtain ⟨e, h1, h2⟩ := ev_3 (okE_t hv) hk
 obtain ⟨t, ht⟩ := Int.eq_ofNat_of_zero_le h1
 have ht8 : t < 8 := by omega
 rw [ht] at e
 generalize x.o = o at *
 subst e
 have e1 : A.step ⟨3, (t : Int), o, 0, 0, 0, 0, []⟩ = A.flush t o := by unfold Dv.step; rw [hv]; rfl
 have e2 : A.stepB ⟨3, (t : Int), o, 0, 0, 0, 0, []⟩ = false := by unfold Dv.stepB; rw [hv]; rfl
 have e3 : A.stepE ⟨3, (t : Int), o, 0, 0, 0, 0, []⟩ = if (A.flush t o).off = true then 3 else if decide (o < ((64 * (A.flush t o).n : Nat) : Int)) = true then 0 else 2 := by unfold Dv.stepE; rw [hv, e1, flush_n]; simp [Dv.isB]
 have kt := dThread6 A J t ht8
 have ks := tFlush A J t ht8 h.wf o hro
 have hI := h.flush t hro.1
 have hn := flush_n A t o
 have h6 := h.wf.n6
 have kz := dSize6 (A.flush t o) J (by omega)
 have kf := dOff6 (A.flush t o) J
 generalize hB : A.flush t o = B at *
 repeat' (first
  | (with_reducible first | apply zY | apply zT | apply zM | apply zN | apply zO | refine chk_ok (by kernel_rfl) ?_)
  | ((with_reducible first | apply zP | apply zQ | apply zR | apply zL) <;> intro h <;> try (exfalso; first | omega | exact h rfl | (revert h; decide) | (cases h; done)))
  | ((with_reducible show False); omega)
  | ((first | (with_reducible first | apply zW | apply zV | apply zU | apply zS | apply zX | show VX _ _ _ _ _ _ _ | show vstep _ _ _ _ _ | show vskip _ _ _ | show withV _ _) | ((with_reducible show endA _ _ _ _ _ _ _); simp -implicitDefEqProofs only [endA]) | (with_reducible first | refine zB default (by first | omega | (simp only [LN]; omega)) (by first | omega | (simp only [LN]; omega)) ?_ | refine zC default (by first | omega | (simp only [LN]; omega)) ?_ | refine And.intro (by first | decide | omega | assumption | (simp only [LN]; omega)) ?_) | ((with_reducible apply zD); (exact kv)) | ((with_reducible apply zE); (exact kv); rfl) | ((with_reducible apply zF); (exact kv)) | (with_reducible first | apply zG | apply zH | apply zI) | ((with_reducible apply zJ); (first | exact kt | exact ks | exact kz | exact kf | fail)) | ((with_reducible show pickE _ _ _); first | refine zA _ ⟨by omega, by rfl⟩ ?_ | refine zA _ (by rfl) ?_) | fail); try simp -dsimp -implicitDefEqProofs (maxSteps := 1000000) (disch := first | omega | (simp only [LN]; omega)) only [go_sem])
  | fail)
 all_goals
  (refine endX_i (⟨J, by rw [e1]; exact hI.le (by omega)⟩) ?_; simp -implicitDefEqProofs only [endA]; (simp -dsimp -implicitDefEqProofs (maxSteps := 1000000) (disch := first | omega | (simp only [LN, e1, e2, e3]; omega)) only [go_sem, e1, e2, e3]; try trivial))
  all_goals first | (simp [*]; done) | (simp_all; done)
end Go.Proofs.YtckhjklcfagkoaaGreatDoor
