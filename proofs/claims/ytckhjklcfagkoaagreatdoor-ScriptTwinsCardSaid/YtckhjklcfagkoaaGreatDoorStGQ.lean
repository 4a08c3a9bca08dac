/- Contracts of functions of this program, and the plain facts that they rest on. No conditions. -/
import Derived.Test.YtckhjklcfagkoaaGreatDoorStDQ
import Derived.Test.YtckhjklcfagkoaaGreatDoorJScOQ
import Derived.Test.YtckhjklcfagkoaaGreatDoorJScIQ
set_option linter.unusedSimpArgs false
set_option linter.unusedVariables false
namespace Go.Proofs.YtckhjklcfagkoaaGreatDoor
set_option maxHeartbeats 4000000
set_option maxRecDepth 100000
open Go Go.Ab
attribute [local irreducible] callK callF loopQ vstep vskip pickE hideP
open Go.RowKit
attribute [local go_sem] eE rE eU deO peO cuO liO thO hiO noO lns_len
theorem Inv.J0 {A : Dv} {J : JT} {N : Nat} (h : Inv A J N) : Inv A J0 N := ⟨h.wf, h.no, fun r hr => by rw [jk_J0]; exact (h.wf.len r hr).1, h.bd⟩
theorem cTwins (a : Int) (ha : -9223372036854775808 ≤ a ∧ a ≤ 9223372036854775807) (l3 : List E3) (hl3 : l3.length ≤ 140737488355328) (hR3 : ∀ x, x ∈ l3 → Rng3 x) (l : List Ev) (hR : ∀ x, x ∈ l → Rng x ∧ x.ch.length ≤ 140737488355328) : PCalls Tryz.prog 5 [.agg [.v (.int .i64 a), .view 6 (l3.map e3)], .view 8 (l.map rE)] (.v (.bool true)) := by
 refine yD ⟨_, rfl, rfl, by decide⟩ fun hf => ?_
 simp only [go_sem, big] at hf
 refine yB (E := E) (fn := Tryz.f5) 103 [.tmp 4] rfl rfl rfl rfl (by decide) rfl ?_
 have k0 := bPlay a ha l3 hl3 hR3 15 (by decide)
 have k1 := bFew l 25 (by decide) (fun x hx => (hR x hx).2)
 have hF := few_rng2 (n := 25) (fun x hx => (hR x hx).1)
 have hFl := few_len2 l 25
 generalize fewE l 25 = m at *
 repeat' ((fail_if_success (with_reducible show awp _ _ (Code.region 4 _ _) _ _)); first
  | (with_reducible first | apply zY | apply zT | apply zM | apply zN | apply zO | refine chk_ok (by kernel_rfl) ?_)
  | ((with_reducible first | apply zP | apply zQ | apply zR | apply zL) <;> intro h <;> try (exfalso; first | omega | exact h rfl | (revert h; decide) | (cases h; done)))
  | ((with_reducible show False); omega)
  | ((with_reducible first | refine r_gr0 [9] (by with_unfolding_all exact rfl) ?_ | refine r_gr1 [9] (by with_unfolding_all exact rfl) ?_ | refine r_gr2 [9] (by with_unfolding_all exact rfl) ?_ | refine r_gr3 [9] (by with_unfolding_all exact rfl) ?_ | refine r_gr4 [9] (by with_unfolding_all exact rfl) ?_ | refine r_gr5 [9] (by with_unfolding_all exact rfl) ?_ | refine r_gr6 [9] (by with_unfolding_all exact rfl) ?_ | refine r_gr7 [9] (by with_unfolding_all exact rfl) ?_ | refine r_gr8 [9] (by with_unfolding_all exact rfl) ?_ | refine r_gr9 [9] (by with_unfolding_all exact rfl) ?_ | refine r_gr10 [9] (by with_unfolding_all exact rfl) ?_); simp -dsimp -implicitDefEqProofs (maxSteps := 1000000) (disch := first | omega | (simp only [LN]; omega)) only [go_sem])
  | ((first | (with_reducible first | apply zW | apply zV | apply zU | apply zS | apply zX | show VX _ _ _ _ _ _ _ | show vstep _ _ _ _ _ | show vskip _ _ _ | show withV _ _) | ((with_reducible show endA _ _ _ _ _ _ _); simp -implicitDefEqProofs only [endA]) | (with_reducible first | refine zB default (by first | omega | (simp only [LN]; omega)) (by first | omega | (simp only [LN]; omega)) ?_ | refine zC default (by first | omega | (simp only [LN]; omega)) ?_ | refine And.intro (by first | decide | omega | assumption | (simp only [LN]; omega)) ?_) | ((with_reducible apply zD); (exact sAwake)) | ((with_reducible apply zE); (exact sAwake); rfl) | ((with_reducible apply zF); (exact sAwake)) | ((with_reducible apply zK); (first | exact k0 | fail); intro gq) | ((with_reducible show pickE _ _ _); first | refine zA _ ⟨by omega, by rfl⟩ ?_ | refine zA _ (by rfl) ?_) | fail); try simp -dsimp -implicitDefEqProofs (maxSteps := 1000000) (disch := first | omega | (simp only [LN]; omega)) only [go_sem])
  | fail)
 all_goals try omega
 obtain ⟨⟨A0, J1, M1⟩, h0⟩ := gq
 have kc := dCopy A0 J1 15 h0.1 (by omega)
 have h0I := h0.1
 simp only at *
 repeat' (first
  | (with_reducible first | apply zY | apply zT | apply zM | apply zN | apply zO | refine chk_ok (by kernel_rfl) ?_)
  | ((with_reducible first | apply zP | apply zQ | apply zR | apply zL) <;> intro h <;> try (exfalso; first | omega | exact h rfl | (revert h; decide) | (cases h; done)))
  | ((with_reducible show False); omega)
  | ((first | (with_reducible first | apply zW | apply zV | apply zU | apply zS | apply zX | show VX _ _ _ _ _ _ _ | show vstep _ _ _ _ _ | show vskip _ _ _ | show withV _ _) | ((with_reducible show endA _ _ _ _ _ _ _); simp -implicitDefEqProofs only [endA]) | (with_reducible first | refine zB default (by first | omega | (simp only [LN]; omega)) (by first | omega | (simp only [LN]; omega)) ?_ | refine zC default (by first | omega | (simp only [LN]; omega)) ?_ | refine And.intro (by first | decide | omega | assumption | (simp only [LN]; omega)) ?_) | ((with_reducible apply zD); (exact k1)) | ((with_reducible apply zE); (exact k1); rfl) | ((with_reducible apply zF); (exact k1)) | (with_reducible first | apply zG | apply zH | apply zI) | ((with_reducible apply zJ); (first | exact kc | fail)) | ((with_reducible show pickE _ _ _); first | refine zA _ ⟨by omega, by rfl⟩ ?_ | refine zA _ (by rfl) ?_) | fail); try simp -dsimp -implicitDefEqProofs (maxSteps := 1000000) (disch := first | omega | (simp only [LN]; omega)) only [go_sem])
  | fail)
 all_goals try omega
 refine r_loop (α := Nat × Dv × (JT) × (JT)) (fun y => ⟨103, [(5, some (.loc 0 0)), (7, some (.loc 26 0)), (30, some (.p (.view 8 (m.map rE)))), (31, some (.p (.v (.int .i64 m.length)))), (32, some (.p (.v (.int .i64 y.1))))], someL (dvL y.2.1 y.2.2.1) ++ [some (deO y.2.1 27 28 29 30), some (peO y.2.1), some (cuO y.2.1), some (liO y.2.1 y.2.2.2 38), some (thO y.2.1 0 26 44), some (thO y.2.1 1 26 44), some (thO y.2.1 2 26 44), some (thO y.2.1 3 26 44), some (thO y.2.1 4 26 44), some (thO y.2.1 5 26 44), some (thO y.2.1 6 26 44), some (thO y.2.1 7 26 44), some (hiO y.2.1 y.2.2.2 0), some (hiO y.2.1 y.2.2.2 1), some (hiO y.2.1 y.2.2.2 2), some (hiO y.2.1 y.2.2.2 3), some (hiO y.2.1 y.2.2.2 4), some (hiO y.2.1 y.2.2.2 5), some (noO y.2.1 0), some (noO y.2.1 1), some (noO y.2.1 2), some (noO y.2.1 3), some (noO y.2.1 4), some (noO y.2.1 5), some (noO y.2.1 6), some (noO y.2.1 7)]⟩)
  (fun y => y.1 ≤ m.length ∧ Inv y.2.1 y.2.2.1 (15 + y.1) ∧ Inv y.2.1 y.2.2.2 (15 + y.1)) (fun y => m.length - y.1) (0, (A0, J1, J0)) ⟨Nat.zero_le _, h0I, h0I.J0⟩ ?_ ?_
 ·refine wk_auto ?_
  simp -dsimp -implicitDefEqProofs (maxSteps := 1000000) (disch := first | omega | (simp only [LN]; omega)) only [go_sem]
 ·rintro ⟨i, A, J, K⟩ ⟨hi, hI, hK⟩
  simp only at hi hI hK
  have w3 : IntKind.i64.wrap ((i : Int) + 1) = ((i + 1 : Nat) : Int) := by rw [IntKind.wrap_i64]; push_cast; omega
  by_cases him : i < m.length
  ·obtain ⟨hRx, hkx, hcx⟩ := hF _ (getD_in him)
   have k2 := bOwn (m.getD i default) hkx (by omega)
   have fin : ∀ (B : Dv) (J2 : JT), WF B → ACalls Tryz.prog 19 [.loc 0 0] [deO B 1 2 3 4, peO B, cuO B, liO B J2 12, thO B 0 0 18, thO B 1 0 18, thO B 2 0 18, thO B 3 0 18, thO B 4 0 18, thO B 5 0 18, thO B 6 0 18, thO B 7 0 18, hiO B J2 0, hiO B J2 1, hiO B J2 2, hiO B J2 3, hiO B J2 4, hiO B J2 5, noO B 0, noO B 1, noO B 2, noO B 3, noO B 4, noO B 5, noO B 6, noO B 7] (.sl 26 1 0 (64 * B.n)) [deO B 1 2 3 4, peO B, cuO B, liO B J2 12, thO B 0 0 18, thO B 1 0 18, thO B 2 0 18, thO B 3 0 18, thO B 4 0 18, thO B 5 0 18, thO B 6 0 18, thO B 7 0 18, hiO B J2 0, hiO B J2 1, hiO B J2 2, hiO B J2 3, hiO B J2 4, hiO B J2 5, noO B 0, noO B 1, noO B 2, noO B 3, noO B 4, noO B 5, noO B 6, noO B 7, .arr 1 ((pB B.cur (64 * B.n)).map eB)] ∧ ACalls Tryz.prog 20 [.loc 0 0] [deO B 1 2 3 4, peO B, cuO B, liO B J2 12, thO B 0 0 18, thO B 1 0 18, thO B 2 0 18, thO B 3 0 18, thO B 4 0 18, thO B 5 0 18, thO B 6 0 18, thO B 7 0 18, hiO B J2 0, hiO B J2 1, hiO B J2 2, hiO B J2 3, hiO B J2 4, hiO B J2 5, noO B 0, noO B 1, noO B 2, noO B 3, noO B 4, noO B 5, noO B 6, noO B 7] (.sl 26 1 0 (64 * B.n)) [deO B 1 2 3 4, peO B, cuO B, liO B J2 12, thO B 0 0 18, thO B 1 0 18, thO B 2 0 18, thO B 3 0 18, thO B 4 0 18, thO B 5 0 18, thO B 6 0 18, thO B 7 0 18, hiO B J2 0, hiO B J2 1, hiO B J2 2, hiO B J2 3, hiO B J2 4, hiO B J2 5, noO B 0, noO B 1, noO B 2, noO B 3, noO B 4, noO B 5, noO B 6, noO B 7, .arr 1 ((pB B.per (64 * B.n)).map eB)] ∧ B.n ≤ 6 := fun B J2 hw => by
    have k5 := dCur6 B J2 hw
    have k6 := dPers6 B J2 hw
    rw [byL_B] at k5 k6
    exact ⟨k5, k6, hw.n6⟩
   by_cases hx : okE (m.getD i default) = true ∧ (m.getD i default).k = 7
   ·have ks := dStep7 A J (15 + i) hI (by omega) (m.getD i default) hx.1 hx.2
    have kt := dStep7 A K (15 + i) hK (by omega) (m.getD i default) hx.1 hx.2
    have hI2 : Inv (A.step (m.getD i default)) J0 (15 + (i + 1)) := by rw [step_7 hx]; exact hI.crash _
    obtain ⟨k5, k6, h6⟩ := fin (A.step (m.getD i default)) J0 hI2.wf
    generalize hxx : m.getD i default = x at *
    generalize hB : A.step x = B at *
    have k7 := dOff6 B J0
    have k8 := dExec6 B J0
    repeat' (first
     | (with_reducible first | apply zY | apply zT | apply zM | apply zN | apply zO | refine chk_ok (by kernel_rfl) ?_)
     | ((with_reducible first | apply zP | apply zQ | apply zR | apply zL) <;> intro h <;> try (exfalso; first | omega | exact h rfl | (revert h; decide) | (cases h; done)))
     | ((with_reducible show False); omega)
     | ((first | (with_reducible first | apply zW | apply zV | apply zU | apply zS | apply zX | show VX _ _ _ _ _ _ _ | show vstep _ _ _ _ _ | show vskip _ _ _ | show withV _ _) | ((with_reducible show endA _ _ _ _ _ _ _); simp -implicitDefEqProofs only [endA]) | (with_reducible first | refine zB default (by first | omega | (simp only [LN, hxx, w3, tkB, pB_len, Nat.min_self]; omega)) (by first | omega | (simp only [LN, hxx, w3, tkB, pB_len, Nat.min_self]; omega)) ?_ | refine zC default (by first | omega | (simp only [LN, hxx, w3, tkB, pB_len, Nat.min_self]; omega)) ?_ | refine And.intro (by first | decide | omega | assumption | (simp only [LN, hxx, w3, tkB, pB_len, Nat.min_self]; omega)) ?_) | ((with_reducible apply zD); (exact k2)) | ((with_reducible apply zE); (exact k2); rfl) | ((with_reducible apply zF); (exact k2)) | (with_reducible first | apply zG | apply zH | apply zI) | ((with_reducible apply zJ); (first | exact ks | exact kt | exact k5 | exact k6 | exact k7 | exact k8 | fail)) | ((with_reducible show pickE _ _ _); first | refine zA _ ⟨by omega, by rfl⟩ ?_ | refine zA _ (by rfl) ?_) | fail); try simp -dsimp -implicitDefEqProofs (maxSteps := 1000000) (disch := first | omega | (simp only [LN, hxx, w3, tkB, pB_len, Nat.min_self]; omega)) only [go_sem, hxx, w3, tkB, pB_len, Nat.min_self])
     | fail)
    all_goals first | omega | ((refine zZ ((i + 1, B, J0, J0)) ?_ ?_ ?_; (exact ⟨by show i + 1 ≤ _; omega, hI2, hI2⟩); (show _ < _; omega); (simp -dsimp -implicitDefEqProofs (maxSteps := 1000000) (disch := first | omega | (simp only [LN]; omega)) only [go_sem]; try trivial)))
   ·have ks := dStepX A J (15 + i) hI (by omega) (m.getD i default) hRx (by omega) hx
    have kt := dStepX A K (15 + i) hK (by omega) (m.getD i default) hRx (by omega) hx
    generalize hxx : m.getD i default = x at *
    generalize hB : A.step x = B at *
    generalize hE : A.stepE x = er at *
    generalize hE2 : A.stepB x = br at *
    repeat' ((fail_if_success (with_reducible show awp _ _ (Code.region 9 _ _) _ _)); first
     | (with_reducible first | apply zY | apply zT | apply zM | apply zN | apply zO | refine chk_ok (by kernel_rfl) ?_)
     | ((with_reducible first | apply zP | apply zQ | apply zR | apply zL) <;> intro h <;> try (exfalso; first | omega | exact h rfl | (revert h; decide) | (cases h; done)))
     | ((with_reducible show False); omega)
     | ((with_reducible first | refine r_gr0 [12] (by with_unfolding_all exact rfl) ?_ | refine r_gr1 [12] (by with_unfolding_all exact rfl) ?_ | refine r_gr2 [12] (by with_unfolding_all exact rfl) ?_ | refine r_gr3 [12] (by with_unfolding_all exact rfl) ?_ | refine r_gr4 [12] (by with_unfolding_all exact rfl) ?_ | refine r_gr5 [12] (by with_unfolding_all exact rfl) ?_ | refine r_gr6 [12] (by with_unfolding_all exact rfl) ?_ | refine r_gr7 [12] (by with_unfolding_all exact rfl) ?_ | refine r_gr8 [12] (by with_unfolding_all exact rfl) ?_ | refine r_gr9 [12] (by with_unfolding_all exact rfl) ?_ | refine r_gr10 [12] (by with_unfolding_all exact rfl) ?_); simp -dsimp -implicitDefEqProofs (maxSteps := 1000000) (disch := first | omega | (simp only [LN, hxx]; omega)) only [go_sem, hxx])
     | ((first | (with_reducible first | apply zW | apply zV | apply zU | apply zS | apply zX | show VX _ _ _ _ _ _ _ | show vstep _ _ _ _ _ | show vskip _ _ _ | show withV _ _) | ((with_reducible show endA _ _ _ _ _ _ _); simp -implicitDefEqProofs only [endA]) | (with_reducible first | refine zB default (by first | omega | (simp only [LN, hxx]; omega)) (by first | omega | (simp only [LN, hxx]; omega)) ?_ | refine zC default (by first | omega | (simp only [LN, hxx]; omega)) ?_ | refine And.intro (by first | decide | omega | assumption | (simp only [LN, hxx]; omega)) ?_) | ((with_reducible apply zD); (exact k2)) | ((with_reducible apply zE); (exact k2); rfl) | ((with_reducible apply zF); (exact k2)) | ((with_reducible apply zK); (first | exact ks | fail); intro gq) | ((with_reducible show pickE _ _ _); first | refine zA _ ⟨by omega, by rfl⟩ ?_ | refine zA _ (by rfl) ?_) | fail); try simp -dsimp -implicitDefEqProofs (maxSteps := 1000000) (disch := first | omega | (simp only [LN, hxx]; omega)) only [go_sem, hxx])
     | fail)
    all_goals try omega
    obtain ⟨J2, hI2⟩ := gq
    obtain ⟨k5, k6, h6⟩ := fin B J2 hI2.wf
    have k7 := dOff6 B J2
    have k8 := dExec6 B J2
    repeat' ((fail_if_success (with_reducible show awp _ _ (Code.region 10 _ _) _ _)); first
     | (with_reducible first | apply zY | apply zT | apply zM | apply zN | apply zO | refine chk_ok (by kernel_rfl) ?_)
     | ((with_reducible first | apply zP | apply zQ | apply zR | apply zL) <;> intro h <;> try (exfalso; first | omega | exact h rfl | (revert h; decide) | (cases h; done)))
     | ((with_reducible show False); omega)
     | ((with_reducible first | refine r_gr0 [12] (by with_unfolding_all exact rfl) ?_ | refine r_gr1 [12] (by with_unfolding_all exact rfl) ?_ | refine r_gr2 [12] (by with_unfolding_all exact rfl) ?_ | refine r_gr3 [12] (by with_unfolding_all exact rfl) ?_ | refine r_gr4 [12] (by with_unfolding_all exact rfl) ?_ | refine r_gr5 [12] (by with_unfolding_all exact rfl) ?_ | refine r_gr6 [12] (by with_unfolding_all exact rfl) ?_ | refine r_gr7 [12] (by with_unfolding_all exact rfl) ?_ | refine r_gr8 [12] (by with_unfolding_all exact rfl) ?_ | refine r_gr9 [12] (by with_unfolding_all exact rfl) ?_ | refine r_gr10 [12] (by with_unfolding_all exact rfl) ?_); simp -dsimp -implicitDefEqProofs (maxSteps := 1000000) (disch := first | omega | (simp only [LN, hxx]; omega)) only [go_sem, hxx])
     | ((first | (with_reducible first | apply zW | apply zV | apply zU | apply zS | apply zX | show VX _ _ _ _ _ _ _ | show vstep _ _ _ _ _ | show vskip _ _ _ | show withV _ _) | ((with_reducible show endA _ _ _ _ _ _ _); simp -implicitDefEqProofs only [endA]) | (with_reducible first | refine zB default (by first | omega | (simp only [LN, hxx]; omega)) (by first | omega | (simp only [LN, hxx]; omega)) ?_ | refine zC default (by first | omega | (simp only [LN, hxx]; omega)) ?_ | refine And.intro (by first | decide | omega | assumption | (simp only [LN, hxx]; omega)) ?_) | ((with_reducible apply zD); (exact k2)) | ((with_reducible apply zE); (exact k2); rfl) | ((with_reducible apply zF); (exact k2)) | ((with_reducible apply zK); (first | exact kt | fail); intro gq) | ((with_reducible show pickE _ _ _); first | refine zA _ ⟨by omega, by rfl⟩ ?_ | refine zA _ (by rfl) ?_) | fail); try simp -dsimp -implicitDefEqProofs (maxSteps := 1000000) (disch := first | omega | (simp only [LN, hxx]; omega)) only [go_sem, hxx])
     | fail)
    all_goals try omega
    obtain ⟨K2, hK2⟩ := gq
    obtain ⟨k5', k6', _⟩ := fin B K2 hI2.wf
    have k7' := dOff6 B K2
    have k8' := dExec6 B K2
    simp only at *
    repeat' (first
     | (with_reducible first | apply zY | apply zT | apply zM | apply zN | apply zO | refine chk_ok (by kernel_rfl) ?_)
     | ((with_reducible first | apply zP | apply zQ | apply zR | apply zL) <;> intro h <;> try (exfalso; first | omega | exact h rfl | (revert h; decide) | (cases h; done)))
     | ((with_reducible show False); omega)
     | ((first | (with_reducible first | apply zW | apply zV | apply zU | apply zS | apply zX | show VX _ _ _ _ _ _ _ | show vstep _ _ _ _ _ | show vskip _ _ _ | show withV _ _) | ((with_reducible show endA _ _ _ _ _ _ _); simp -implicitDefEqProofs only [endA]) | (with_reducible first | refine zB default (by first | omega | (simp only [LN, hxx, w3, tkB, pB_len, Nat.min_self]; omega)) (by first | omega | (simp only [LN, hxx, w3, tkB, pB_len, Nat.min_self]; omega)) ?_ | refine zC default (by first | omega | (simp only [LN, hxx, w3, tkB, pB_len, Nat.min_self]; omega)) ?_ | refine And.intro (by first | decide | omega | assumption | (simp only [LN, hxx, w3, tkB, pB_len, Nat.min_self]; omega)) ?_) | (with_reducible first | apply zG | apply zH | apply zI) | ((with_reducible apply zJ); (first | exact k5 | exact k5' | exact k6 | exact k6' | exact k7 | exact k7' | exact k8 | exact k8' | fail)) | ((with_reducible show pickE _ _ _); first | refine zA _ ⟨by omega, by rfl⟩ ?_ | refine zA _ (by rfl) ?_) | fail); try simp -dsimp -implicitDefEqProofs (maxSteps := 1000000) (disch := first | omega | (simp only [LN, hxx, w3, tkB, pB_len, Nat.min_self]; omega)) only [go_sem, hxx, w3, tkB, pB_len, Nat.min_self])
     | fail)
    all_goals first | omega | ((refine zZ ((i + 1, B, J2, K2)) ?_ ?_ ?_; (exact ⟨by show i + 1 ≤ _; omega, hI2, hK2⟩); (show _ < _; omega); (simp -dsimp -implicitDefEqProofs (maxSteps := 1000000) (disch := first | omega | (simp only [LN]; omega)) only [go_sem]; try trivial)))
  ·obtain rfl : i = m.length := by omega
   repeat' (first
    | (with_reducible first | apply zY | apply zT | apply zM | apply zN | apply zO | refine chk_ok (by kernel_rfl) ?_)
    | ((with_reducible first | apply zP | apply zQ | apply zR | apply zL) <;> intro h <;> try (exfalso; first | omega | exact h rfl | (revert h; decide) | (cases h; done)))
    | ((with_reducible show False); omega)
    | ((first | (with_reducible first | apply zW | apply zV | apply zU | apply zS | apply zX | show VX _ _ _ _ _ _ _ | show vstep _ _ _ _ _ | show vskip _ _ _ | show withV _ _) | ((with_reducible show endA _ _ _ _ _ _ _); simp -implicitDefEqProofs only [endA]) | (with_reducible first | refine zB default (by first | omega | (simp only [LN]; omega)) (by first | omega | (simp only [LN]; omega)) ?_ | refine zC default (by first | omega | (simp only [LN]; omega)) ?_ | refine And.intro (by first | decide | omega | assumption | (simp only [LN]; omega)) ?_) | ((with_reducible show pickE _ _ _); first | refine zA _ ⟨by omega, by rfl⟩ ?_ | refine zA _ (by rfl) ?_) | fail); try simp -dsimp -implicitDefEqProofs (maxSteps := 1000000) (disch := first | omega | (simp only [LN]; omega)) only [go_sem])
    | fail)
   all_goals first | omega | rfl
end Go.Proofs.YtckhjklcfagkoaaGreatDoor
