/- Contracts of functions of this program, and the plain facts that they rest on. No conditions. -/
import Derived.Test.YtckhjklcfagkoaaGreatDoorStHQ
import Derived.Test.YtckhjklcfagkoaaGreatDoorJScIQ
set_option linter.unusedSimpArgs false
set_option linter.unusedVariables false
namespace Go.Proofs.YtckhjklcfagkoaaGreatDoor
set_option maxHeartbeats 4000000
set_option maxRecDepth 100000
open Go Go.Ab
attribute [local irreducible] callK callF loopQ vstep vskip pickE hideP
open Go.RowKit
theorem r_cutI {P : Program} {nb : Nat} {Q : Exit → ASt → Prop} {s : ASt} {c d : Code} {α : Type} (I : α → ASt) (p : α → Prop) (h1 : awp P nb c (fun e s => match e with | .normal => ∃ y, p y ∧ Wk nb s (I y) | e => Q e s) s) (h2 : ∀ x, p x → awp P nb d Q (I x)) : awp P nb (.seq c d) Q s := by
 refine zY (awp_mono (fun e s h => ?_) h1)
 cases e with
 | normal =>
  obtain ⟨y, hp, hw⟩ := h
  exact r_weak hw (h2 y hp)
 | _ => exact h
theorem at_mod (a : Int) (n : Nat) : -((n : Int) + 1) < a.tmod ((n : Int) + 1) ∧ a.tmod ((n : Int) + 1) < (n : Int) + 1 ∧ (a.tmod ((n : Int) + 1) + n + 1).tmod ((n : Int) + 1) = a % ((n : Int) + 1) := by
 have h1 := Int.tmod_lt_of_pos a (show (0 : Int) < (n : Int) + 1 by omega)
 have h2 := Int.lt_tmod_of_pos a (show (0 : Int) < (n : Int) + 1 by omega)
 refine ⟨by omega, by omega, ?_⟩
 rw [Int.tmod_eq_emod_of_nonneg (by omega), show a.tmod ((n : Int) + 1) + (n : Int) + 1 = a.tmod ((n : Int) + 1) + ((n : Int) + 1) by omega, Int.add_emod_right]
 have e := Int.tmod_eq_emod (a := a) (b := (n : Int) + 1)
 split at e
 ·rw [e]; simp
 ·rw [e, show ((((n : Int) + 1).natAbs : Nat) : Int) = (n : Int) + 1 by omega, Int.sub_emod_right, Int.emod_emod]
attribute [local go_sem] eE rE eU deO peO cuO liO thO hiO noO rdO rlO lns_len runR runL rRunR rRunL
theorem cRuns (a : Int) (ha : -9223372036854775808 ≤ a ∧ a ≤ 9223372036854775807) (l3 : List E3) (hl3 : l3.length ≤ 140737488355328) (hR3 : ∀ x, x ∈ l3 → Rng3 x) (l : List Ev) (hR : ∀ x, x ∈ l → Rng x ∧ x.ch.length ≤ 140737488355328) (at2 : Int) : PCalls Tryz.prog 4 [.agg [.v (.int .i64 a), .view 6 (l3.map e3)], .view 8 (l.map rE), .v (.int .i64 at2)] (.v (.bool true)) := by
 refine yD ⟨_, rfl, rfl, by decide⟩ fun hf => ?_
 simp only [go_sem, big] at hf
 refine yB (E := E) (fn := Tryz.f4) 90 [.tmp 6] rfl rfl rfl rfl (by decide) rfl ?_
 have k0 := bPlay a ha l3 hl3 hR3 10 (by decide)
 have k1 := bFew l 30 (by decide) (fun x hx => (hR x hx).2)
 have hF := few_rng2 (n := 30) (fun x hx => (hR x hx).1)
 have hFl := few_len2 l 30
 generalize fewE l 30 = m at *
 obtain ⟨b1, b2, b3⟩ := at_mod at2 m.length
 have hq0 := Int.emod_nonneg at2 (show (m.length : Int) + 1 ≠ 0 by omega)
 have hq1 := Int.emod_lt_of_pos at2 (show (0 : Int) < (m.length : Int) + 1 by omega)
 obtain ⟨q, hq⟩ : ∃ q : Nat, at2 % ((m.length : Int) + 1) = q := ⟨(at2 % ((m.length : Int) + 1)).toNat, by omega⟩
 have hqm : q ≤ m.length := by omega
 rw [hq] at b3
 generalize ht : at2.tmod ((m.length : Int) + 1) = t at *
 have w0 : IntKind.i64.wrap ((m.length : Int) + 1) = (m.length : Int) + 1 := by rw [IntKind.wrap_i64]; omega
 have w1 : IntKind.i64.wrap t = t := by rw [IntKind.wrap_i64]; omega
 have w2 : IntKind.i64.wrap (t + m.length) = t + m.length := by rw [IntKind.wrap_i64]; omega
 have w3 : IntKind.i64.wrap (t + m.length + 1) = t + m.length + 1 := by rw [IntKind.wrap_i64]; omega
 have w4 : IntKind.i64.wrap (q : Int) = q := by rw [IntKind.wrap_i64]; omega
 repeat' ((fail_if_success (with_reducible show awp _ _ (Code.region 6 _ _) _ _)); first
  | (with_reducible first | apply zY | apply zT | apply zM | apply zN | apply zO | refine chk_ok (by kernel_rfl) ?_)
  | ((with_reducible first | apply zP | apply zQ | apply zR | apply zL) <;> intro h <;> try (exfalso; first | omega | exact h rfl | (revert h; decide) | (cases h; done)))
  | ((with_reducible show False); omega)
  | ((with_reducible first | refine r_gr0 [9] (by with_unfolding_all exact rfl) ?_ | refine r_gr1 [9] (by with_unfolding_all exact rfl) ?_ | refine r_gr2 [9] (by with_unfolding_all exact rfl) ?_ | refine r_gr3 [9] (by with_unfolding_all exact rfl) ?_ | refine r_gr4 [9] (by with_unfolding_all exact rfl) ?_ | refine r_gr5 [9] (by with_unfolding_all exact rfl) ?_ | refine r_gr6 [9] (by with_unfolding_all exact rfl) ?_ | refine r_gr7 [9] (by with_unfolding_all exact rfl) ?_ | refine r_gr8 [9] (by with_unfolding_all exact rfl) ?_ | refine r_gr9 [9] (by with_unfolding_all exact rfl) ?_ | refine r_gr10 [9] (by with_unfolding_all exact rfl) ?_); simp -dsimp -implicitDefEqProofs (maxSteps := 1000000) (disch := first | omega | (simp only [LN, w0, ht, w1, w2, w3, w4, b3]; omega)) only [go_sem, w0, ht, w1, w2, w3, w4, b3])
  | ((first | (with_reducible first | apply zW | apply zV | apply zU | apply zS | apply zX | show VX _ _ _ _ _ _ _ | show vstep _ _ _ _ _ | show vskip _ _ _ | show withV _ _) | ((with_reducible show endA _ _ _ _ _ _ _); simp -implicitDefEqProofs only [endA]) | (with_reducible first | refine zB default (by first | omega | (simp only [LN, w0, ht, w1, w2, w3, w4, b3]; omega)) (by first | omega | (simp only [LN, w0, ht, w1, w2, w3, w4, b3]; omega)) ?_ | refine zC default (by first | omega | (simp only [LN, w0, ht, w1, w2, w3, w4, b3]; omega)) ?_ | refine And.intro (by first | decide | omega | assumption | (simp only [LN, w0, ht, w1, w2, w3, w4, b3]; omega)) ?_) | ((with_reducible apply zD); (first | exact sAwake | exact k1 | fail)) | ((with_reducible apply zE); (first | exact sAwake | exact k1 | fail); rfl) | ((with_reducible apply zF); (first | exact sAwake | exact k1 | fail)) | ((with_reducible apply zK); (first | exact k0 | fail); intro gq) | ((with_reducible show pickE _ _ _); first | refine zA _ ⟨by omega, by rfl⟩ ?_ | refine zA _ (by rfl) ?_) | fail); try simp -dsimp -implicitDefEqProofs (maxSteps := 1000000) (disch := first | omega | (simp only [LN, w0, ht, w1, w2, w3, w4, b3]; omega)) only [go_sem, w0, ht, w1, w2, w3, w4, b3])
  | fail)
 all_goals try omega
 obtain ⟨⟨A, J1, M⟩, h0⟩ := gq
 have kc := dCopy A J1 10 h0.1 (by omega)
 have hI := h0.1
 have hRI := h0.2
 simp only at *
 repeat' ((fail_if_success (with_reducible show awp _ _ (Code.seq (Code.region 7 _ _) _) _ _)); first
  | (with_reducible first | apply zY | apply zT | apply zM | apply zN | apply zO | refine chk_ok (by kernel_rfl) ?_)
  | ((with_reducible first | apply zP | apply zQ | apply zR | apply zL) <;> intro h <;> try (exfalso; first | omega | exact h rfl | (revert h; decide) | (cases h; done)))
  | ((with_reducible show False); omega)
  | ((first | (with_reducible first | apply zW | apply zV | apply zU | apply zS | apply zX | show VX _ _ _ _ _ _ _ | show vstep _ _ _ _ _ | show vskip _ _ _ | show withV _ _) | ((with_reducible show endA _ _ _ _ _ _ _); simp -implicitDefEqProofs only [endA]) | (with_reducible first | refine zB default (by first | omega | (simp only [LN]; omega)) (by first | omega | (simp only [LN]; omega)) ?_ | refine zC default (by first | omega | (simp only [LN]; omega)) ?_ | refine And.intro (by first | decide | omega | assumption | (simp only [LN]; omega)) ?_) | (with_reducible first | apply zG | apply zH | apply zI) | ((with_reducible apply zJ); (first | exact kc | fail)) | ((with_reducible show pickE _ _ _); first | refine zA _ ⟨by omega, by rfl⟩ ?_ | refine zA _ (by rfl) ?_) | fail); try simp -dsimp -implicitDefEqProofs (maxSteps := 1000000) (disch := first | omega | (simp only [LN]; omega)) only [go_sem])
  | fail)
 all_goals try omega
 have hFm : ∀ l : List Ev, (∀ x, x ∈ l → x ∈ m) → (∀ x, x ∈ l → (0 ≤ x.k ∧ x.k ≤ 255) ∧ x.ch.length ≤ 1000000) ∧ ∀ x, x ∈ l → Rng x ∧ x.ch.length ≤ 1000000 := fun l hl => ⟨fun x hx => ⟨(hF x (hl x hx)).2.1, by have := (hF x (hl x hx)).2.2; omega⟩, fun x hx => ⟨(hF x (hl x hx)).1, by have := (hF x (hl x hx)).2.2; omega⟩⟩
 have f0 := hFm m fun _ h => h
 have f1 := hFm (m.take q) fun _ h => List.mem_of_mem_take h
 have f2 := hFm (m.drop q) fun _ h => List.mem_of_mem_drop h
 have hl1 : (m.take q).length = q := by rw [List.length_take]; omega
 have hl2 : (m.drop q).length = m.length - q := List.length_drop
 have o0 := bOwnL m (by omega) f0.1
 have o1 := bOwnL (m.take q) (by omega) f1.1
 have o2 := bOwnL (m.drop q) (by omega) f2.1
 have r0 := dRun A J1 10 hI m (by omega) f0.2
 have rw0 := rRun A M 10 hI.jz hRI m (by omega) f0.2
 have r1 := dRun A J0 10 hI.jz (m.take q) (by omega) f1.2
 have hsp := run_take A m q
 obtain ⟨B, hB⟩ : ∃ B, B = (A.run m).1 := ⟨_, rfl⟩
 obtain ⟨e, he⟩ : ∃ e, e = (A.run m).2 := ⟨_, rfl⟩
 obtain ⟨C, hC⟩ : ∃ C, C = (A.run (m.take q)).1 := ⟨_, rfl⟩
 obtain ⟨e1, he1⟩ : ∃ e, e = (A.run (m.take q)).2 := ⟨_, rfl⟩
 have r2 := fun K2 (hK : Inv C K2 (10 + q)) => dRun C K2 (10 + q) hK (m.drop q) (by omega) f2.2
 rw [← hB, ← he] at r0 rw0
 rw [← hC, ← he1] at r1
 refine r_cutI (fun J2 : JT => ⟨90, [(1, some (.p (.view 8 (m.map rE)))), (2, some (.p (.v (.int .i64 q)))), (7, some (.loc 0 0)), (8, some (.loc 52 0)), (9, some (.loc 26 0)), (10, some (.p (.v (.int .i64 e))))], someL (dvL B J2) ++ [some (deO A 27 28 29 30), some (peO A), some (cuO A), some (liO A J0 38), some (thO A 0 26 44), some (thO A 1 26 44), some (thO A 2 26 44), some (thO A 3 26 44), some (thO A 4 26 44), some (thO A 5 26 44), some (thO A 6 26 44), some (thO A 7 26 44), some (hiO A J0 0), some (hiO A J0 1), some (hiO A J0 2), some (hiO A J0 3), some (hiO A J0 4), some (hiO A J0 5), some (noO A 0), some (noO A 1), some (noO A 2), some (noO A 3), some (noO A 4), some (noO A 5), some (noO A 6), some (noO A 7), some (rdO A M 53), some (rlO A)]⟩) (fun J2 => Inv B J2 100) ?_ ?_
 ·repeat' (first
   | (with_reducible first | apply zY | apply zT | apply zM | apply zN | apply zO | refine chk_ok (by kernel_rfl) ?_)
   | ((with_reducible first | apply zP | apply zQ | apply zR | apply zL) <;> intro h <;> try (exfalso; first | omega | exact h rfl | (revert h; decide) | (cases h; done)))
   | ((with_reducible show False); omega)
   | ((with_reducible first | refine r_gr0 [17] (by with_unfolding_all exact rfl) ?_ | refine r_gr1 [17] (by with_unfolding_all exact rfl) ?_ | refine r_gr2 [17] (by with_unfolding_all exact rfl) ?_ | refine r_gr3 [17] (by with_unfolding_all exact rfl) ?_ | refine r_gr4 [17] (by with_unfolding_all exact rfl) ?_ | refine r_gr5 [17] (by with_unfolding_all exact rfl) ?_ | refine r_gr6 [17] (by with_unfolding_all exact rfl) ?_ | refine r_gr7 [17] (by with_unfolding_all exact rfl) ?_ | refine r_gr8 [17] (by with_unfolding_all exact rfl) ?_ | refine r_gr9 [17] (by with_unfolding_all exact rfl) ?_ | refine r_gr10 [17] (by with_unfolding_all exact rfl) ?_); simp -dsimp -implicitDefEqProofs (maxSteps := 1000000) (disch := first | omega | (simp only [LN]; omega)) only [go_sem])
   | ((first | (with_reducible first | apply zW | apply zV | apply zU | apply zS | apply zX | show VX _ _ _ _ _ _ _ | show vstep _ _ _ _ _ | show vskip _ _ _ | show withV _ _) | ((with_reducible show endA _ _ _ _ _ _ _); simp -implicitDefEqProofs only [endA]) | (with_reducible first | refine zB default (by first | omega | (simp only [LN]; omega)) (by first | omega | (simp only [LN]; omega)) ?_ | refine zC default (by first | omega | (simp only [LN]; omega)) ?_ | refine And.intro (by first | decide | omega | assumption | (simp only [LN]; omega)) ?_) | ((with_reducible apply zD); (exact o0)) | ((with_reducible apply zE); (exact o0); rfl) | ((with_reducible apply zF); (exact o0)) | ((with_reducible apply zK); (first | exact r0 | fail); intro gq) | ((with_reducible show pickE _ _ _); first | refine zA _ ⟨by omega, by rfl⟩ ?_ | refine zA _ (by rfl) ?_) | fail); try simp -dsimp -implicitDefEqProofs (maxSteps := 1000000) (disch := first | omega | (simp only [LN]; omega)) only [go_sem])
   | fail)
  all_goals try omega
  obtain ⟨⟨c, J2⟩, hJ⟩ := gq
  have hJ3 : Inv B J2 100 := hJ.le (show 10 + m.length ≤ 100 by omega)
  cases c
  all_goals
   simp -dsimp -implicitDefEqProofs (maxSteps := 1000000) (disch := first | omega | (simp only [LN]; omega)) only [go_sem]
   first | (refine cut_next (J2) ?_ ?_; (exact hJ3); (simp -dsimp -implicitDefEqProofs (maxSteps := 1000000) (disch := first | omega | (simp only [LN]; omega)) only [go_sem]; try trivial))
 intro J2 hJ2
 refine r_cutI (fun M2 : MT => ⟨90, [(1, some (.p (.view 8 (m.map rE)))), (2, some (.p (.v (.int .i64 q)))), (7, some (.loc 0 0)), (8, some (.loc 52 0)), (9, some (.loc 26 0)), (10, some (.p (.v (.int .i64 e)))), (11, some (.p (.v (.int .i64 e))))], someL (dvL B J2) ++ [some (deO A 27 28 29 30), some (peO A), some (cuO A), some (liO A J0 38), some (thO A 0 26 44), some (thO A 1 26 44), some (thO A 2 26 44), some (thO A 3 26 44), some (thO A 4 26 44), some (thO A 5 26 44), some (thO A 6 26 44), some (thO A 7 26 44), some (hiO A J0 0), some (hiO A J0 1), some (hiO A J0 2), some (hiO A J0 3), some (hiO A J0 4), some (hiO A J0 5), some (noO A 0), some (noO A 1), some (noO A 2), some (noO A 3), some (noO A 4), some (noO A 5), some (noO A 6), some (noO A 7), some (rdO B M2 53), some (rlO B)]⟩) (fun M2 => RInv B M2 100) ?_ ?_
 ·simp -dsimp -implicitDefEqProofs (maxSteps := 1000000) (disch := first | omega | (simp only [LN]; omega)) only [go_sem]
  repeat' (first
   | (with_reducible first | apply zY | apply zT | apply zM | apply zN | apply zO | refine chk_ok (by kernel_rfl) ?_)
   | ((with_reducible first | apply zP | apply zQ | apply zR | apply zL) <;> intro h <;> try (exfalso; first | omega | exact h rfl | (revert h; decide) | (cases h; done)))
   | ((with_reducible show False); omega)
   | ((with_reducible first | refine r_gr0 [19] (by with_unfolding_all exact rfl) ?_ | refine r_gr1 [19] (by with_unfolding_all exact rfl) ?_ | refine r_gr2 [19] (by with_unfolding_all exact rfl) ?_ | refine r_gr3 [19] (by with_unfolding_all exact rfl) ?_ | refine r_gr4 [19] (by with_unfolding_all exact rfl) ?_ | refine r_gr5 [19] (by with_unfolding_all exact rfl) ?_ | refine r_gr6 [19] (by with_unfolding_all exact rfl) ?_ | refine r_gr7 [19] (by with_unfolding_all exact rfl) ?_ | refine r_gr8 [19] (by with_unfolding_all exact rfl) ?_ | refine r_gr9 [19] (by with_unfolding_all exact rfl) ?_ | refine r_gr10 [19] (by with_unfolding_all exact rfl) ?_); simp -dsimp -implicitDefEqProofs (maxSteps := 1000000) (disch := first | omega | (simp only [LN]; omega)) only [go_sem])
   | ((first | (with_reducible first | apply zW | apply zV | apply zU | apply zS | apply zX | show VX _ _ _ _ _ _ _ | show vstep _ _ _ _ _ | show vskip _ _ _ | show withV _ _) | ((with_reducible show endA _ _ _ _ _ _ _); simp -implicitDefEqProofs only [endA]) | (with_reducible first | refine zB default (by first | omega | (simp only [LN]; omega)) (by first | omega | (simp only [LN]; omega)) ?_ | refine zC default (by first | omega | (simp only [LN]; omega)) ?_ | refine And.intro (by first | decide | omega | assumption | (simp only [LN]; omega)) ?_) | ((with_reducible apply zK); (first | exact rw0 | fail); intro gq) | ((with_reducible show pickE _ _ _); first | refine zA _ ⟨by omega, by rfl⟩ ?_ | refine zA _ (by rfl) ?_) | fail); try simp -dsimp -implicitDefEqProofs (maxSteps := 1000000) (disch := first | omega | (simp only [LN]; omega)) only [go_sem])
   | fail)
  all_goals try omega
  obtain ⟨⟨c, M2⟩, hM⟩ := gq
  have hM3 : RInv B M2 100 := hM.le (show 10 + m.length ≤ 100 by omega)
  cases c
  all_goals
   simp -dsimp -implicitDefEqProofs (maxSteps := 1000000) (disch := first | omega | (simp only [LN]; omega)) only [go_sem]
   first | (refine cut_next (M2) ?_ ?_; (exact hM3); (simp -dsimp -implicitDefEqProofs (maxSteps := 1000000) (disch := first | omega | (simp only [LN]; omega)) only [go_sem]; try trivial))
 intro M2 hM2
 have kS := bSame3 B J2 M2 100 hJ2 (by omega) hM2
 simp -dsimp -implicitDefEqProofs (maxSteps := 1000000) (disch := first | omega | (simp only [LN]; omega)) only [go_sem]
 repeat' ((fail_if_success (with_reducible show awp _ _ (Code.seq (Code.region 11 _ _) _) _ _)); first
  | (with_reducible first | apply zY | apply zT | apply zM | apply zN | apply zO | refine chk_ok (by kernel_rfl) ?_)
  | ((with_reducible first | apply zP | apply zQ | apply zR | apply zL) <;> intro h <;> try (exfalso; first | omega | exact h rfl | (revert h; decide) | (cases h; done)))
  | ((with_reducible show False); omega)
  | ((first | (with_reducible first | apply zW | apply zV | apply zU | apply zS | apply zX | show VX _ _ _ _ _ _ _ | show vstep _ _ _ _ _ | show vskip _ _ _ | show withV _ _) | ((with_reducible show endA _ _ _ _ _ _ _); simp -implicitDefEqProofs only [endA]) | (with_reducible first | refine zB default (by first | omega | (simp only [LN]; omega)) (by first | omega | (simp only [LN]; omega)) ?_ | refine zC default (by first | omega | (simp only [LN]; omega)) ?_ | refine And.intro (by first | decide | omega | assumption | (simp only [LN]; omega)) ?_) | (with_reducible first | apply zG | apply zH | apply zI) | ((with_reducible apply zJ); (first | exact kS | fail)) | ((with_reducible show pickE _ _ _); first | refine zA _ ⟨by omega, by rfl⟩ ?_ | refine zA _ (by rfl) ?_) | fail); try simp -dsimp -implicitDefEqProofs (maxSteps := 1000000) (disch := first | omega | (simp only [LN]; omega)) only [go_sem])
  | fail)
 all_goals try omega
 refine r_cutI (fun K2 : JT => ⟨90, [(1, some (.p (.view 8 (m.map rE)))), (2, some (.p (.v (.int .i64 q)))), (8, some (.loc 26 0)), (9, some (.loc 0 0)), (10, some (.p (.v (.int .i64 e1)))), (11, some (.p (.v (.int .i64 e))))], someL (dvL C K2) ++ [some (rdO B M2 27), some (rlO B)]⟩) (fun K2 => Inv C K2 (10 + q)) ?_ ?_
 ·repeat' (first
   | (with_reducible first | apply zY | apply zT | apply zM | apply zN | apply zO | refine chk_ok (by kernel_rfl) ?_)
   | ((with_reducible first | apply zP | apply zQ | apply zR | apply zL) <;> intro h <;> try (exfalso; first | omega | exact h rfl | (revert h; decide) | (cases h; done)))
   | ((with_reducible show False); omega)
   | ((with_reducible first | refine r_gr0 [17] (by with_unfolding_all exact rfl) ?_ | refine r_gr1 [17] (by with_unfolding_all exact rfl) ?_ | refine r_gr2 [17] (by with_unfolding_all exact rfl) ?_ | refine r_gr3 [17] (by with_unfolding_all exact rfl) ?_ | refine r_gr4 [17] (by with_unfolding_all exact rfl) ?_ | refine r_gr5 [17] (by with_unfolding_all exact rfl) ?_ | refine r_gr6 [17] (by with_unfolding_all exact rfl) ?_ | refine r_gr7 [17] (by with_unfolding_all exact rfl) ?_ | refine r_gr8 [17] (by with_unfolding_all exact rfl) ?_ | refine r_gr9 [17] (by with_unfolding_all exact rfl) ?_ | refine r_gr10 [17] (by with_unfolding_all exact rfl) ?_); simp -dsimp -implicitDefEqProofs (maxSteps := 1000000) (disch := first | omega | (simp only [LN]; omega)) only [go_sem])
   | ((first | (with_reducible first | apply zW | apply zV | apply zU | apply zS | apply zX | show VX _ _ _ _ _ _ _ | show vstep _ _ _ _ _ | show vskip _ _ _ | show withV _ _) | ((with_reducible show endA _ _ _ _ _ _ _); simp -implicitDefEqProofs only [endA]) | (with_reducible first | refine zB default (by first | omega | (simp only [LN]; omega)) (by first | omega | (simp only [LN]; omega)) ?_ | refine zC default (by first | omega | (simp only [LN]; omega)) ?_ | refine And.intro (by first | decide | omega | assumption | (simp only [LN]; omega)) ?_) | ((with_reducible apply zD); (exact o1)) | ((with_reducible apply zE); (exact o1); rfl) | ((with_reducible apply zF); (exact o1)) | ((with_reducible apply zK); (first | exact r1 | fail); intro gq) | ((with_reducible show pickE _ _ _); first | refine zA _ ⟨by omega, by rfl⟩ ?_ | refine zA _ (by rfl) ?_) | fail); try simp -dsimp -implicitDefEqProofs (maxSteps := 1000000) (disch := first | omega | (simp only [LN]; omega)) only [go_sem])
   | fail)
  all_goals try omega
  obtain ⟨⟨c, K2⟩, hK⟩ := gq
  have hK3 : Inv C K2 (10 + q) := by rw [← hl1]; exact hK
  cases c
  all_goals
   simp -dsimp -implicitDefEqProofs (maxSteps := 1000000) (disch := first | omega | (simp only [LN]; omega)) only [go_sem]
   first | (refine cut_next (K2) ?_ ?_; (exact hK3); (simp -dsimp -implicitDefEqProofs (maxSteps := 1000000) (disch := first | omega | (simp only [LN]; omega)) only [go_sem]; try trivial))
 intro K2 hK2
 have r2 := r2 K2 hK2
 refine r_cutI (fun K3 : JT => ⟨90, [(8, some (.loc 26 0)), (9, some (.loc 0 0)), (10, some (.p (.v (.int .i64 e)))), (11, some (.p (.v (.int .i64 e))))], someL (dvL B K3) ++ [some (rdO B M2 27), some (rlO B)]⟩) (fun K3 => Inv B K3 100) ?_ ?_
 ·simp -dsimp -implicitDefEqProofs (maxSteps := 1000000) (disch := first | omega | (simp only [LN]; omega)) only [go_sem]
  by_cases hz : e1 = 0
  ·rw [← hC, ← he1, if_pos hz] at hsp
   rw [← hsp, ← hB, ← he] at r2
   repeat' (first
    | (with_reducible first | apply zY | apply zT | apply zM | apply zN | apply zO | refine chk_ok (by kernel_rfl) ?_)
    | ((with_reducible first | apply zP | apply zQ | apply zR | apply zL) <;> intro h <;> try (exfalso; first | omega | exact h rfl | (revert h; decide) | (cases h; done)))
    | ((with_reducible show False); omega)
    | ((with_reducible first | refine r_gr0 [17] (by with_unfolding_all exact rfl) ?_ | refine r_gr1 [17] (by with_unfolding_all exact rfl) ?_ | refine r_gr2 [17] (by with_unfolding_all exact rfl) ?_ | refine r_gr3 [17] (by with_unfolding_all exact rfl) ?_ | refine r_gr4 [17] (by with_unfolding_all exact rfl) ?_ | refine r_gr5 [17] (by with_unfolding_all exact rfl) ?_ | refine r_gr6 [17] (by with_unfolding_all exact rfl) ?_ | refine r_gr7 [17] (by with_unfolding_all exact rfl) ?_ | refine r_gr8 [17] (by with_unfolding_all exact rfl) ?_ | refine r_gr9 [17] (by with_unfolding_all exact rfl) ?_ | refine r_gr10 [17] (by with_unfolding_all exact rfl) ?_); simp -dsimp -implicitDefEqProofs (maxSteps := 1000000) (disch := first | omega | (simp only [LN, hz]; omega)) only [go_sem, hz])
    | ((first | (with_reducible first | apply zW | apply zV | apply zU | apply zS | apply zX | show VX _ _ _ _ _ _ _ | show vstep _ _ _ _ _ | show vskip _ _ _ | show withV _ _) | ((with_reducible show endA _ _ _ _ _ _ _); simp -implicitDefEqProofs only [endA]) | (with_reducible first | refine zB default (by first | omega | (simp only [LN, hz]; omega)) (by first | omega | (simp only [LN, hz]; omega)) ?_ | refine zC default (by first | omega | (simp only [LN, hz]; omega)) ?_ | refine And.intro (by first | decide | omega | assumption | (simp only [LN, hz]; omega)) ?_) | ((with_reducible apply zD); (exact o2)) | ((with_reducible apply zE); (exact o2); rfl) | ((with_reducible apply zF); (exact o2)) | ((with_reducible apply zK); (first | exact r2 | fail); intro gq) | ((with_reducible show pickE _ _ _); first | refine zA _ ⟨by omega, by rfl⟩ ?_ | refine zA _ (by rfl) ?_) | fail); try simp -dsimp -implicitDefEqProofs (maxSteps := 1000000) (disch := first | omega | (simp only [LN, hz]; omega)) only [go_sem, hz])
    | fail)
   all_goals first | omega | skip
   obtain ⟨⟨c, K3⟩, hK⟩ := gq
   have hK3 : Inv B K3 100 := hK.le (by rw [hl2]; omega)
   cases c
   all_goals
    simp -dsimp -implicitDefEqProofs (maxSteps := 1000000) (disch := first | omega | (simp only [LN]; omega)) only [go_sem]
    first | (refine cut_next (K3) ?_ ?_; (exact hK3); (simp -dsimp -implicitDefEqProofs (maxSteps := 1000000) (disch := first | omega | (simp only [LN]; omega)) only [go_sem]; try trivial))
  ·rw [← he1, if_neg hz] at hsp
   have hBC : B = C := by rw [hB, hC, hsp]
   have hee : e = e1 := by rw [he, he1, hsp]
   subst hBC
   subst hee
   repeat' (first
    | (with_reducible first | apply zY | apply zT | apply zM | apply zN | apply zO | refine chk_ok (by kernel_rfl) ?_)
    | ((with_reducible first | apply zP | apply zQ | apply zR | apply zL) <;> intro h <;> try (exfalso; first | omega | exact h rfl | (revert h; decide) | (cases h; done)))
    | ((with_reducible show False); omega)
    | ((first | (with_reducible first | apply zW | apply zV | apply zU | apply zS | apply zX | show VX _ _ _ _ _ _ _ | show vstep _ _ _ _ _ | show vskip _ _ _ | show withV _ _) | ((with_reducible show endA _ _ _ _ _ _ _); simp -implicitDefEqProofs only [endA]) | (with_reducible first | refine zB default (by first | omega | (simp only [LN, hz]; omega)) (by first | omega | (simp only [LN, hz]; omega)) ?_ | refine zC default (by first | omega | (simp only [LN, hz]; omega)) ?_ | refine And.intro (by first | decide | omega | assumption | (simp only [LN, hz]; omega)) ?_) | ((with_reducible show pickE _ _ _); first | refine zA _ ⟨by omega, by rfl⟩ ?_ | refine zA _ (by rfl) ?_) | fail); try simp -dsimp -implicitDefEqProofs (maxSteps := 1000000) (disch := first | omega | (simp only [LN, hz]; omega)) only [go_sem, hz])
    | fail)
   all_goals first | omega | (refine cut_next (K2) ?_ ?_; (exact hK2.le (by omega)); (simp -dsimp -implicitDefEqProofs (maxSteps := 1000000) (disch := first | omega | (simp only [LN]; omega)) only [go_sem]; try trivial))
 intro K3 hK3
 have kS3 := bSame3 B K3 M2 100 hK3 (by omega) hM2
 simp -dsimp -implicitDefEqProofs (maxSteps := 1000000) (disch := first | omega | (simp only [LN]; omega)) only [go_sem]
 repeat' (first
  | (with_reducible first | apply zY | apply zT | apply zM | apply zN | apply zO | refine chk_ok (by kernel_rfl) ?_)
  | ((with_reducible first | apply zP | apply zQ | apply zR | apply zL) <;> intro h <;> try (exfalso; first | omega | exact h rfl | (revert h; decide) | (cases h; done)))
  | ((with_reducible show False); omega)
  | ((first | (with_reducible first | apply zW | apply zV | apply zU | apply zS | apply zX | show VX _ _ _ _ _ _ _ | show vstep _ _ _ _ _ | show vskip _ _ _ | show withV _ _) | ((with_reducible show endA _ _ _ _ _ _ _); simp -implicitDefEqProofs only [endA]) | (with_reducible first | refine zB default (by first | omega | (simp only [LN]; omega)) (by first | omega | (simp only [LN]; omega)) ?_ | refine zC default (by first | omega | (simp only [LN]; omega)) ?_ | refine And.intro (by first | decide | omega | assumption | (simp only [LN]; omega)) ?_) | (with_reducible first | apply zG | apply zH | apply zI) | ((with_reducible apply zJ); (first | exact kS3 | fail)) | ((with_reducible show pickE _ _ _); first | refine zA _ ⟨by omega, by rfl⟩ ?_ | refine zA _ (by rfl) ?_) | fail); try simp -dsimp -implicitDefEqProofs (maxSteps := 1000000) (disch := first | omega | (simp only [LN]; omega)) only [go_sem])
  | fail)
 all_goals first | omega | rfl
end Go.Proofs.YtckhjklcfagkoaaGreatDoor
