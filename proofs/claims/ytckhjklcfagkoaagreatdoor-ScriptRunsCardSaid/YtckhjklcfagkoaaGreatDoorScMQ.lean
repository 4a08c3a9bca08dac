/- Contracts of functions of this program, and the plain facts that they rest on. No conditions. -/
import Derived.Test.YtckhjklcfagkoaaGreatDoorScKQ
import Derived.Test.YtckhjklcfagkoaaGreatDoorScLQ
set_option linter.unusedSimpArgs false
set_option linter.unusedVariables false
namespace Go.Proofs.YtckhjklcfagkoaaGreatDoor
set_option maxHeartbeats 4000000
set_option maxRecDepth 100000
open Go Go.Ab
attribute [local irreducible] callK callF loopQ vstep vskip pickE hideP
attribute [local go_sem] eE eU deO peO cuO liO thO hiO noO
theorem dStepX (A : Dv) (J : JT) (N : Nat) (h : Inv A J N) (hN : N < 1000000000) (x : Ev) (R : Rng x) (hc : x.ch.length ≤ 1000000) (hx : ¬ (okE x = true ∧ x.k = 7)) :
  ACallsX Tryz.prog 11 [.loc 0 0, .p (eE x)] (dvL A J) (fun _ : { J2 : JT // Inv (A.step x) J2 (N + 1) } => .tup [.loc 0 0, .p (.v (.bool (A.stepB x))), .p (.v (.int .i64 (A.stepE x)))]) (fun g => (dv2 (A.step x) g.1)) := by
 cases hv : okE x with
 | false => exact dStepN A J N h x hc hv
 | true =>
  have hk := okE_t hv
  have hks : x.k = 1 ∨ x.k = 2 ∨ x.k = 3 ∨ x.k = 4 ∨ x.k = 5 ∨ x.k = 6 := by have : ¬ x.k = 7 := fun e => hx ⟨hv, e⟩; unfold okK at hk; omega
  rcases hks with e | e | e | e | e | e
  ·exact dStep1 A J N h hN x R hv e
  ·exact dStep2 A J N h hN x R hv e
  ·exact dStep3 A J N h hN x R hv e
  ·exact dStep4 A J N h hN x R hv e
  ·exact dStep5 A J N h hN x R hv e
  ·exact dStep6 A J N h hN x R hv e
noncomputable def Dv.run (A : Dv) : List Ev → Dv × Int
 | [] => (A, 0)
 | x :: l => if A.stepE x ≠ 0 ∧ A.stepE x ≠ 3 then (A.step x, A.stepE x) else (A.step x).run l
theorem run_stop {A : Dv} {x : Ev} {l : List Ev} (h : ¬ A.stepE x = 0) (h2 : ¬ A.stepE x = 3) : A.run (x :: l) = (A.step x, A.stepE x) := if_pos ⟨h, h2⟩
theorem run_go {A : Dv} {x : Ev} {l : List Ev} (h : A.stepE x = 0 ∨ A.stepE x = 3) : A.run (x :: l) = (A.step x).run l := if_neg (by rintro ⟨h1, h2⟩; rcases h with h | h <;> contradiction)
theorem run_nil (A : Dv) : A.run [] = (A, 0) := rfl
theorem step_7 {A : Dv} {x : Ev} (h : okE x = true ∧ x.k = 7) : A.step x = A.crash x.ch := by unfold Dv.step; rw [if_pos h.1, h.2]; rfl
theorem step7_e {A : Dv} {x : Ev} (h : okE x = true ∧ x.k = 7) : A.stepE x = 0 := by unfold Dv.stepE; rw [h.1, h.2]; simp
def runR (c : Bool) : AV := match c with
 | false => .loc 0 0
 | true => .loc 26 0
def runL (A : Dv) (J : JT) (c : Bool) : List Ob := match c with
 | false => [deO A 1 2 3 4, peO A, cuO A, liO A J 26, thO A 0 0 18, thO A 1 0 18, thO A 2 0 18, thO A 3 0 18, thO A 4 0 18, thO A 5 0 18, thO A 6 0 18, thO A 7 0 18, .dead, .dead, .dead, .dead, .dead, .dead, noO A 0, noO A 1, noO A 2, noO A 3, noO A 4, noO A 5, noO A 6, noO A 7, hiO A J 0, hiO A J 1, hiO A J 2, hiO A J 3, hiO A J 4, hiO A J 5]
 | true => [.dead, .dead, .dead, .dead, .dead, .dead, .dead, .dead, .dead, .dead, .dead, .dead, .dead, .dead, .dead, .dead, .dead, .dead, .dead, .dead, .dead, .dead, .dead, .dead, .dead, .dead, deO A 27 28 29 30, peO A, cuO A, liO A J 38, thO A 0 26 44, thO A 1 26 44, thO A 2 26 44, thO A 3 26 44, thO A 4 26 44, thO A 5 26 44, thO A 6 26 44, thO A 7 26 44, hiO A J 0, hiO A J 1, hiO A J 2, hiO A J 3, hiO A J 4, hiO A J 5, noO A 0, noO A 1, noO A 2, noO A 3, noO A 4, noO A 5, noO A 6, noO A 7]
attribute [local go_sem] runR runL
theorem dRun (A : Dv) (J : JT) (N : Nat) (h : Inv A J N) (l : List Ev) (hl : N + l.length < 1000000000) (hR : ∀ x, x ∈ l → Rng x ∧ x.ch.length ≤ 1000000) :
  ACallsX Tryz.prog 16 [.loc 0 0, .p (.view 8 (l.map eE))] (dvL A J) (fun g : { g : Bool × (JT) // Inv (A.run l).1 g.2 (N + l.length) } => .tup [runR g.1.1, .p (.v (.int .i64 (A.run l).2))]) (fun g => runL (A.run l).1 g.1.2 g.1.1) := by
 refine yC (E := E) (fn := Tryz.f16) 35 [.tmp 4, .tmp 5] rfl rfl rfl rfl (by decide) rfl (fun g => by obtain ⟨⟨c, J2⟩, _⟩ := g; cases c <;> rfl) ?_
 repeat' ((fail_if_success (with_reducible show awp _ _ (Code.seq (Code.region 99 _ _) _) _ _)); first
  | (with_reducible first | apply zY | apply zT | apply zM | apply zN | apply zO | refine chk_ok (by kernel_rfl) ?_)
  | ((with_reducible first | apply zP | apply zQ | apply zR | apply zL) <;> intro h <;> try (exfalso; first | omega | exact h rfl | (revert h; decide) | (cases h; done)))
  | ((with_reducible show False); omega)
  | ((first | (with_reducible first | apply zW | apply zV | apply zU | apply zS | apply zX | show VX _ _ _ _ _ _ _ | show vstep _ _ _ _ _ | show vskip _ _ _ | show withV _ _) | ((with_reducible show endA _ _ _ _ _ _ _); simp -implicitDefEqProofs only [endA]) | (with_reducible first | refine zB default (by first | omega | (simp only [LN]; omega)) (by first | omega | (simp only [LN]; omega)) ?_ | refine zC default (by first | omega | (simp only [LN]; omega)) ?_ | refine And.intro (by first | decide | omega | assumption | (simp only [LN]; omega)) ?_) | ((with_reducible show pickE _ _ _); first | refine zA _ ⟨by omega, by rfl⟩ ?_ | refine zA _ (by rfl) ?_) | fail); try simp -dsimp -implicitDefEqProofs (maxSteps := 1000000) (disch := first | omega | (simp only [LN]; omega)) only [go_sem])
  | fail)
 refine r_loop (α := Nat × Bool × Dv × (JT)) (fun x => match x with
  | (i, false, D, K) => ⟨35, [(0, some (.loc 0 0)), (11, some (.p (.view 8 (l.map eE)))), (12, some (.p (.v (.int .i64 l.length)))), (13, some (.p (.v (.int .i64 i))))], [some (deO D 1 2 3 4), some (peO D), some (cuO D), some (liO D K 26), some (thO D 0 0 18), some (thO D 1 0 18), some (thO D 2 0 18), some (thO D 3 0 18), some (thO D 4 0 18), some (thO D 5 0 18), some (thO D 6 0 18), some (thO D 7 0 18), some (.dead), some (.dead), some (.dead), some (.dead), some (.dead), some (.dead), some (noO D 0), some (noO D 1), some (noO D 2), some (noO D 3), some (noO D 4), some (noO D 5), some (noO D 6), some (noO D 7), some (hiO D K 0), some (hiO D K 1), some (hiO D K 2), some (hiO D K 3), some (hiO D K 4), some (hiO D K 5)]⟩
  | (i, true, D, K) => ⟨35, [(0, some (.loc 26 0)), (11, some (.p (.view 8 (l.map eE)))), (12, some (.p (.v (.int .i64 l.length)))), (13, some (.p (.v (.int .i64 i))))], [some .dead, some .dead, some .dead, some .dead, some .dead, some .dead, some .dead, some .dead, some .dead, some .dead, some .dead, some .dead, some .dead, some .dead, some .dead, some .dead, some .dead, some .dead, some .dead, some .dead, some .dead, some .dead, some .dead, some .dead, some .dead, some .dead, some (deO D 27 28 29 30), some (peO D), some (cuO D), some (liO D K 38), some (thO D 0 26 44), some (thO D 1 26 44), some (thO D 2 26 44), some (thO D 3 26 44), some (thO D 4 26 44), some (thO D 5 26 44), some (thO D 6 26 44), some (thO D 7 26 44), some (hiO D K 0), some (hiO D K 1), some (hiO D K 2), some (hiO D K 3), some (hiO D K 4), some (hiO D K 5), some (noO D 0), some (noO D 1), some (noO D 2), some (noO D 3), some (noO D 4), some (noO D 5), some (noO D 6), some (noO D 7)]⟩)
  (fun x => x.1 ≤ l.length ∧ Inv x.2.2.1 x.2.2.2 (N + x.1) ∧ A.run l = x.2.2.1.run (l.drop x.1)) (fun x => l.length - x.1) (0, false, A, J) ?_ ?_ ?_
 ·exact ⟨Nat.zero_le _, h, by rw [List.drop_zero]⟩
 ·refine wk_auto ?_
  simp -dsimp -implicitDefEqProofs (maxSteps := 1000000) (disch := first | omega | (simp only [LN]; omega)) only [go_sem]
 ·rintro ⟨i, c, D, K⟩ ⟨h1, hI, hrun⟩
  simp only at h1 hI hrun
  by_cases hi : i < l.length
  ·have hm : l.getD i default ∈ l := by rw [List.getD_eq_getElem?_getD, List.getElem?_eq_getElem hi]; exact List.getElem_mem hi
   obtain ⟨hRx, hcx⟩ := hR _ hm
   have hdr : l.drop i = l.getD i default :: l.drop (i + 1) := by rw [List.drop_eq_getElem_cons hi, List.getD_eq_getElem?_getD, List.getElem?_eq_getElem hi]; rfl
   rw [hdr] at hrun
   have hstop := run_stop (A := D) (x := l.getD i default) (l := l.drop (i + 1))
   have hgo := run_go (A := D) (x := l.getD i default) (l := l.drop (i + 1))
   by_cases hx : okE (l.getD i default) = true ∧ (l.getD i default).k = 7
   ·have k7 := dStep7 D K (N + i) hI (by omega) (l.getD i default) hx.1 hx.2
    have e0 := step7_e (A := D) hx
    rw [hgo (.inl e0)] at hrun
    have hI2 : Inv (D.step (l.getD i default)) J0 (N + (i + 1)) := by
     rw [step_7 hx]; exact hI.crash _
    generalize hxx : l.getD i default = x at *
    generalize hB : D.step x = B at *
    cases c
    all_goals
     repeat' (first
      | (with_reducible first | apply zY | apply zT | apply zM | apply zN | apply zO | refine chk_ok (by kernel_rfl) ?_)
      | ((with_reducible first | apply zP | apply zQ | apply zR | apply zL) <;> intro h <;> try (exfalso; first | omega | exact h rfl | (revert h; decide) | (cases h; done)))
      | ((with_reducible show False); omega)
      | ((first | (with_reducible first | apply zW | apply zV | apply zU | apply zS | apply zX | show VX _ _ _ _ _ _ _ | show vstep _ _ _ _ _ | show vskip _ _ _ | show withV _ _) | ((with_reducible show endA _ _ _ _ _ _ _); simp -implicitDefEqProofs only [endA]) | (with_reducible first | refine zB default (by first | omega | (simp only [LN, hxx]; omega)) (by first | omega | (simp only [LN, hxx]; omega)) ?_ | refine zC default (by first | omega | (simp only [LN, hxx]; omega)) ?_ | refine And.intro (by first | decide | omega | assumption | (simp only [LN, hxx]; omega)) ?_) | (with_reducible first | apply zG | apply zH | apply zI) | ((with_reducible apply zJ); (first | exact k7 | fail)) | ((with_reducible show pickE _ _ _); first | refine zA _ ⟨by omega, by rfl⟩ ?_ | refine zA _ (by rfl) ?_) | fail); try simp -dsimp -implicitDefEqProofs (maxSteps := 1000000) (disch := first | omega | (simp only [LN, hxx]; omega)) only [go_sem, hxx])
      | fail)
     all_goals first
      | omega
      | (refine zZ (i + 1, true, B, J0) ⟨by show i + 1 ≤ _; omega, hI2, hrun⟩ (by show l.length - (i + 1) < l.length - i; omega) ?_; (simp -dsimp -implicitDefEqProofs (maxSteps := 1000000) (disch := first | omega | (simp only [LN]; omega)) only [go_sem]; try trivial))
   ·have ks := dStepX D K (N + i) hI (by omega) (l.getD i default) hRx hcx hx
    generalize hxx : l.getD i default = x at *
    generalize hB : D.step x = B at *
    generalize hE : D.stepE x = e at *
    cases c
    ·repeat' (first
      | (with_reducible first | apply zY | apply zT | apply zM | apply zN | apply zO | refine chk_ok (by kernel_rfl) ?_)
      | ((with_reducible first | apply zP | apply zQ | apply zR | apply zL) <;> intro h <;> try (exfalso; first | omega | exact h rfl | (revert h; decide) | (cases h; done)))
      | ((with_reducible show False); omega)
      | ((with_reducible first | refine r_gr0 [12] (by with_unfolding_all exact rfl) ?_ | refine r_gr1 [12] (by with_unfolding_all exact rfl) ?_ | refine r_gr2 [12] (by with_unfolding_all exact rfl) ?_ | refine r_gr3 [12] (by with_unfolding_all exact rfl) ?_ | refine r_gr4 [12] (by with_unfolding_all exact rfl) ?_ | refine r_gr5 [12] (by with_unfolding_all exact rfl) ?_ | refine r_gr6 [12] (by with_unfolding_all exact rfl) ?_ | refine r_gr7 [12] (by with_unfolding_all exact rfl) ?_ | refine r_gr8 [12] (by with_unfolding_all exact rfl) ?_ | refine r_gr9 [12] (by with_unfolding_all exact rfl) ?_ | refine r_gr10 [12] (by with_unfolding_all exact rfl) ?_); simp -dsimp -implicitDefEqProofs (maxSteps := 1000000) (disch := first | omega | (simp only [LN, hxx]; omega)) only [go_sem, hxx])
      | ((first | (with_reducible first | apply zW | apply zV | apply zU | apply zS | apply zX | show VX _ _ _ _ _ _ _ | show vstep _ _ _ _ _ | show vskip _ _ _ | show withV _ _) | ((with_reducible show endA _ _ _ _ _ _ _); simp -implicitDefEqProofs only [endA]) | (with_reducible first | refine zB default (by first | omega | (simp only [LN, hxx]; omega)) (by first | omega | (simp only [LN, hxx]; omega)) ?_ | refine zC default (by first | omega | (simp only [LN, hxx]; omega)) ?_ | refine And.intro (by first | decide | omega | assumption | (simp only [LN, hxx]; omega)) ?_) | ((with_reducible apply zK); (first | exact ks | fail); intro gq) | ((with_reducible show pickE _ _ _); first | refine zA _ ⟨by omega, by rfl⟩ ?_ | refine zA _ (by rfl) ?_) | fail); try simp -dsimp -implicitDefEqProofs (maxSteps := 1000000) (disch := first | omega | (simp only [LN, hxx]; omega)) only [go_sem, hxx])
      | fail)
     all_goals first
      | omega
      | (refine zZ (i + 1, false, B, gq.1) ⟨by show i + 1 ≤ _; omega, gq.2, by rw [hrun]; exact hgo (by omega)⟩ (by show l.length - (i + 1) < l.length - i; omega) ?_; (simp -dsimp -implicitDefEqProofs (maxSteps := 1000000) (disch := first | omega | (simp only [LN]; omega)) only [go_sem]; try trivial))
      | (have hrn := hrun.trans (hstop (by assumption) (by assumption)); (refine endX_i (⟨(false, gq.1), by rw [hrn]; exact gq.2.le (by omega)⟩) ?_; simp -implicitDefEqProofs only [endA]; (simp -dsimp -implicitDefEqProofs (maxSteps := 1000000) (disch := first | omega | (simp only [LN, hrn]; omega)) only [go_sem, hrn]; try trivial)))
    ·repeat' (first
      | (with_reducible first | apply zY | apply zT | apply zM | apply zN | apply zO | refine chk_ok (by kernel_rfl) ?_)
      | ((with_reducible first | apply zP | apply zQ | apply zR | apply zL) <;> intro h <;> try (exfalso; first | omega | exact h rfl | (revert h; decide) | (cases h; done)))
      | ((with_reducible show False); omega)
      | ((with_reducible first | refine r_gr0 [12] (by with_unfolding_all exact rfl) ?_ | refine r_gr1 [12] (by with_unfolding_all exact rfl) ?_ | refine r_gr2 [12] (by with_unfolding_all exact rfl) ?_ | refine r_gr3 [12] (by with_unfolding_all exact rfl) ?_ | refine r_gr4 [12] (by with_unfolding_all exact rfl) ?_ | refine r_gr5 [12] (by with_unfolding_all exact rfl) ?_ | refine r_gr6 [12] (by with_unfolding_all exact rfl) ?_ | refine r_gr7 [12] (by with_unfolding_all exact rfl) ?_ | refine r_gr8 [12] (by with_unfolding_all exact rfl) ?_ | refine r_gr9 [12] (by with_unfolding_all exact rfl) ?_ | refine r_gr10 [12] (by with_unfolding_all exact rfl) ?_); simp -dsimp -implicitDefEqProofs (maxSteps := 1000000) (disch := first | omega | (simp only [LN, hxx]; omega)) only [go_sem, hxx])
      | ((first | (with_reducible first | apply zW | apply zV | apply zU | apply zS | apply zX | show VX _ _ _ _ _ _ _ | show vstep _ _ _ _ _ | show vskip _ _ _ | show withV _ _) | ((with_reducible show endA _ _ _ _ _ _ _); simp -implicitDefEqProofs only [endA]) | (with_reducible first | refine zB default (by first | omega | (simp only [LN, hxx]; omega)) (by first | omega | (simp only [LN, hxx]; omega)) ?_ | refine zC default (by first | omega | (simp only [LN, hxx]; omega)) ?_ | refine And.intro (by first | decide | omega | assumption | (simp only [LN, hxx]; omega)) ?_) | ((with_reducible apply zK); (first | exact ks | fail); intro gq) | ((with_reducible show pickE _ _ _); first | refine zA _ ⟨by omega, by rfl⟩ ?_ | refine zA _ (by rfl) ?_) | fail); try simp -dsimp -implicitDefEqProofs (maxSteps := 1000000) (disch := first | omega | (simp only [LN, hxx]; omega)) only [go_sem, hxx])
      | fail)
     all_goals first
      | omega
      | (refine zZ (i + 1, true, B, gq.1) ⟨by show i + 1 ≤ _; omega, gq.2, by rw [hrun]; exact hgo (by omega)⟩ (by show l.length - (i + 1) < l.length - i; omega) ?_; (simp -dsimp -implicitDefEqProofs (maxSteps := 1000000) (disch := first | omega | (simp only [LN]; omega)) only [go_sem]; try trivial))
      | (have hrn := hrun.trans (hstop (by assumption) (by assumption)); (refine endX_i (⟨(true, gq.1), by rw [hrn]; exact gq.2.le (by omega)⟩) ?_; simp -implicitDefEqProofs only [endA]; (simp -dsimp -implicitDefEqProofs (maxSteps := 1000000) (disch := first | omega | (simp only [LN, hrn]; omega)) only [go_sem, hrn]; try trivial)))
  ·obtain rfl : i = l.length := by omega
   rw [List.drop_length, run_nil] at hrun
   cases c
   ·repeat' (first
     | (with_reducible first | apply zY | apply zT | apply zM | apply zN | apply zO | refine chk_ok (by kernel_rfl) ?_)
     | ((with_reducible first | apply zP | apply zQ | apply zR | apply zL) <;> intro h <;> try (exfalso; first | omega | exact h rfl | (revert h; decide) | (cases h; done)))
     | ((with_reducible show False); omega)
     | ((first | (with_reducible first | apply zW | apply zV | apply zU | apply zS | apply zX | show VX _ _ _ _ _ _ _ | show vstep _ _ _ _ _ | show vskip _ _ _ | show withV _ _) | ((with_reducible show endA _ _ _ _ _ _ _); simp -implicitDefEqProofs only [endA]) | (with_reducible first | refine zB default (by first | omega | (simp only [LN]; omega)) (by first | omega | (simp only [LN]; omega)) ?_ | refine zC default (by first | omega | (simp only [LN]; omega)) ?_ | refine And.intro (by first | decide | omega | assumption | (simp only [LN]; omega)) ?_) | ((with_reducible show pickE _ _ _); first | refine zA _ ⟨by omega, by rfl⟩ ?_ | refine zA _ (by rfl) ?_) | fail); try simp -dsimp -implicitDefEqProofs (maxSteps := 1000000) (disch := first | omega | (simp only [LN]; omega)) only [go_sem])
     | fail)
    all_goals first | omega | ((refine endX_i (⟨(false, K), by rw [hrun]; exact hI⟩) ?_; simp -implicitDefEqProofs only [endA]; (simp -dsimp -implicitDefEqProofs (maxSteps := 1000000) (disch := first | omega | (simp only [LN, hrun]; omega)) only [go_sem, hrun]; try trivial)))
   ·repeat' (first
     | (with_reducible first | apply zY | apply zT | apply zM | apply zN | apply zO | refine chk_ok (by kernel_rfl) ?_)
     | ((with_reducible first | apply zP | apply zQ | apply zR | apply zL) <;> intro h <;> try (exfalso; first | omega | exact h rfl | (revert h; decide) | (cases h; done)))
     | ((with_reducible show False); omega)
     | ((first | (with_reducible first | apply zW | apply zV | apply zU | apply zS | apply zX | show VX _ _ _ _ _ _ _ | show vstep _ _ _ _ _ | show vskip _ _ _ | show withV _ _) | ((with_reducible show endA _ _ _ _ _ _ _); simp -implicitDefEqProofs only [endA]) | (with_reducible first | refine zB default (by first | omega | (simp only [LN]; omega)) (by first | omega | (simp only [LN]; omega)) ?_ | refine zC default (by first | omega | (simp only [LN]; omega)) ?_ | refine And.intro (by first | decide | omega | assumption | (simp only [LN]; omega)) ?_) | ((with_reducible show pickE _ _ _); first | refine zA _ ⟨by omega, by rfl⟩ ?_ | refine zA _ (by rfl) ?_) | fail); try simp -dsimp -implicitDefEqProofs (maxSteps := 1000000) (disch := first | omega | (simp only [LN]; omega)) only [go_sem])
     | fail)
    all_goals first | omega | ((refine endX_i (⟨(true, K), by rw [hrun]; exact hI⟩) ?_; simp -implicitDefEqProofs only [endA]; (simp -dsimp -implicitDefEqProofs (maxSteps := 1000000) (disch := first | omega | (simp only [LN, hrun]; omega)) only [go_sem, hrun]; try trivial)))
end Go.Proofs.YtckhjklcfagkoaaGreatDoor
