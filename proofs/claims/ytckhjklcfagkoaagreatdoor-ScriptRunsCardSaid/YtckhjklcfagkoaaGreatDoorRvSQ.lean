/- Contracts of functions of this program, and the plain facts that they rest on. No conditions. -/
import Derived.Test.YtckhjklcfagkoaaGreatDoorJRvQQ
set_option linter.unusedSimpArgs false
set_option linter.unusedVariables false
namespace Go.Proofs.YtckhjklcfagkoaaGreatDoor
set_option maxHeartbeats 4000000
set_option maxRecDepth 100000
open Go Go.Ab
attribute [local irreducible] callK callF loopQ vstep vskip pickE hideP
theorem acalls_nil2 {P : Program} {f : FuncId} {L L' : List Ob} {r x : AV} {sz : Nat} (hs : 0 < sz) (h : ACalls P f [x, .p (.view sz [])] L r L') : ACalls P f [x, .p (.v (.slice none 0 0))] L r L' := by
 refine ⟨h.1, h.2.1, fun Z lb w vals ho hr => h.2.2 Z lb w vals ho ?_⟩
 simp only [AReps] at hr ⊢
 obtain ⟨u, us, h1, h2, v, vs, h3, h4, h5⟩ := hr
 exact ⟨u, us, h1, h2, v, vs, h3, by simp only [ARep] at h4 ⊢; exact ple_rep _ _ _ (by simp [PLe, hs]) h4, h5⟩
theorem kC_nil (A : Dv) (r : Nat) : kC A [] r = 0 := by unfold kC; split <;> rfl
theorem contS_0 {A : Dv} (h : WF A) : contS A (kC A []) = A.per := by
 refine list_getD (by rw [contS_len, h.per]) fun j hj => ?_
 rw [contS_len] at hj
 rw [contS_get _ _ _ hj, kC_nil, List.take_zero]; rfl
theorem byL_B (ws : List Int) (m : Nat) : byL ws m m = (pB ws m).map eB := byL_pB ws m
theorem tkB (ws : List Int) (m : Nat) : List.take m ((pB ws m).map eB) = (pB ws m).map eB := List.take_of_length_le (by rw [List.length_map, pB_len]; exact Nat.le_refl _)
attribute [local go_sem] eU deO peO cuO liO thO hiO noO rdO rlO lns_len eNd
theorem bSame3 (A : Dv) (J : JT) (M : MT) (N : Nat) (hI : Inv A J N) (hN : N ≤ 1000000) (hR : RInv A M N) : ACalls Tryz.prog 14 [.loc 0 0, .loc 26 0] (dvL A J ++ [rdO A M 27, rlO A]) (.p (.v (.bool true))) (dvL A J ++ [rdO A M 27, rlO A]) := by
 refine yA (E := E) (fn := Tryz.f14) 153 [.tmp 4] rfl rfl rfl rfl (by decide) rfl rfl ?_
 have h6 := hI.wf.n6
 have k1 := dOff6 A J
 have k2 := dExec6 A J
 have k3 := dLines6 A J h6
 have k4 := dSize6 A J h6
 have k5 := dCur6 A J hI.wf
 have k6 := dPers6 A J hI.wf
 have k7 := dDirty6 A J hI.wf
 have r5 := rCurrent A M hR.wf hR.rg hR.cu
 have r6 := acalls_nil2 (by decide) (rCont A M hR.wf hR.rg [] (by simp) (fun r hr => by rw [kC_nil]; omega))
 rw [contS_0 hR.wf, oL_by, byL_B] at r6
 rw [oL_by, byL_B] at r5
 rw [byL_B] at k5 k6
 have r7 := rDirty A M hR.wf
 have a1 : IntKind.i64.wrap (64 * (A.n : Int)) = ((64 * A.n : Nat) : Int) := by rw [IntKind.wrap_i64]; omega
 have a2 : IntKind.u64.wrap ((64 * A.n : Nat) : Int) = ((64 * A.n : Nat) : Int) := by rw [IntKind.wrap_u64]; omega
 repeat' (first
  | (with_reducible first | apply zY | apply zT | apply zM | apply zN | apply zO | refine chk_ok (by kernel_rfl) ?_)
  | ((with_reducible first | apply zP | apply zQ | apply zR | apply zL) <;> intro h <;> try (exfalso; first | omega | exact h rfl | (revert h; decide) | (cases h; done)))
  | ((with_reducible show False); omega)
  | ((first | (with_reducible first | apply zW | apply zV | apply zU | apply zS | apply zX | show VX _ _ _ _ _ _ _ | show vstep _ _ _ _ _ | show vskip _ _ _ | show withV _ _) | ((with_reducible show endA _ _ _ _ _ _ _); simp -implicitDefEqProofs only [endA]) | (with_reducible first | refine zB default (by first | omega | (simp only [LN, a1, a2, tkB, pB_len, Nat.min_self]; omega)) (by first | omega | (simp only [LN, a1, a2, tkB, pB_len, Nat.min_self]; omega)) ?_ | refine zC default (by first | omega | (simp only [LN, a1, a2, tkB, pB_len, Nat.min_self]; omega)) ?_ | refine And.intro (by first | decide | omega | assumption | (simp only [LN, a1, a2, tkB, pB_len, Nat.min_self]; omega)) ?_) | (with_reducible first | apply zG | apply zH | apply zI) | ((with_reducible apply zJ); (first | exact k1 | exact k2 | exact k3 | exact k4 | exact k5 | exact k6 | exact k7 | exact r5 | exact r6 | exact r7 | fail)) | ((with_reducible show pickE _ _ _); first | refine zA _ ⟨by omega, by rfl⟩ ?_ | refine zA _ (by rfl) ?_) | fail); try simp -dsimp -implicitDefEqProofs (maxSteps := 1000000) (disch := first | omega | (simp only [LN, a1, a2, tkB, pB_len, Nat.min_self]; omega)) only [go_sem, a1, a2, tkB, pB_len, Nat.min_self])
  | fail)
 refine r_loopA (α := Nat) [0, 1, 5, 6, 81] (fun i b => [(82, aI i)]) (fun i b => []) (fun i => []) (fun i => i ≤ (dirL A A.n).length) (fun i => (dirL A A.n).length - i) (0) ?h0_1 ?hs0_1 ?I_1 ?hI_1 ?round_1
 case hI_1 => intro x; (simp -dsimp -implicitDefEqProofs (maxSteps := 1000000) (disch := first | omega | (simp only [LN]; omega)) only [go_sem]) <;> exact rfl
 case hs0_1 => refine wk_auto ?_; (simp -dsimp -implicitDefEqProofs (maxSteps := 1000000) (disch := first | omega | (simp only [LN]; omega)) only [go_sem]) <;> (try omega)
 case h0_1 => exact Nat.zero_le _
 case round_1 =>
  intro i hi
  have hdl := dirL_len A A.n
  have w3 : IntKind.i64.wrap ((i : Int) + 1) = ((i + 1 : Nat) : Int) := by rw [IntKind.wrap_i64]; push_cast; omega
  by_cases hlt : i < (dirL A A.n).length
  ·repeat' (first
    | (with_reducible first | apply zY | apply zT | apply zM | apply zN | apply zO | refine chk_ok (by kernel_rfl) ?_)
    | ((with_reducible first | apply zP | apply zQ | apply zR | apply zL) <;> intro h <;> try (exfalso; first | omega | exact h rfl | (revert h; decide) | (cases h; done)))
    | ((with_reducible show False); omega)
    | ((first | (with_reducible first | apply zW | apply zV | apply zU | apply zS | apply zX | show VX _ _ _ _ _ _ _ | show vstep _ _ _ _ _ | show vskip _ _ _ | show withV _ _) | ((with_reducible show endA _ _ _ _ _ _ _); simp -implicitDefEqProofs only [endA]) | (with_reducible first | refine zB default (by first | omega | (simp only [LN, w3]; omega)) (by first | omega | (simp only [LN, w3]; omega)) ?_ | refine zC default (by first | omega | (simp only [LN, w3]; omega)) ?_ | refine And.intro (by first | decide | omega | assumption | (simp only [LN, w3]; omega)) ?_) | ((with_reducible show pickE _ _ _); first | refine zA _ ⟨by omega, by rfl⟩ ?_ | refine zA _ (by rfl) ?_) | fail); try simp -dsimp -implicitDefEqProofs (maxSteps := 1000000) (disch := first | omega | (simp only [LN, w3]; omega)) only [go_sem, w3])
    | fail)
   all_goals first | omega | (refine zZ (i + 1) ?_ ?_ ?_; (omega); (show _ < _; omega); (simp -dsimp -implicitDefEqProofs (maxSteps := 1000000) (disch := first | omega | (simp only [LN]; omega)) only [go_sem]; try trivial))
  ·obtain rfl : i = (dirL A A.n).length := by omega
   clear w3
   repeat' (first
    | (with_reducible first | apply zY | apply zT | apply zM | apply zN | apply zO | refine chk_ok (by kernel_rfl) ?_)
    | ((with_reducible first | apply zP | apply zQ | apply zR | apply zL) <;> intro h <;> try (exfalso; first | omega | exact h rfl | (revert h; decide) | (cases h; done)))
    | ((with_reducible show False); omega)
    | ((first | (with_reducible first | apply zW | apply zV | apply zU | apply zS | apply zX | show VX _ _ _ _ _ _ _ | show vstep _ _ _ _ _ | show vskip _ _ _ | show withV _ _) | ((with_reducible show endA _ _ _ _ _ _ _); simp -implicitDefEqProofs only [endA]) | (with_reducible first | refine zB default (by first | omega | (simp only [LN]; omega)) (by first | omega | (simp only [LN]; omega)) ?_ | refine zC default (by first | omega | (simp only [LN]; omega)) ?_ | refine And.intro (by first | decide | omega | assumption | (simp only [LN]; omega)) ?_) | ((with_reducible show pickE _ _ _); first | refine zA _ ⟨by omega, by rfl⟩ ?_ | refine zA _ (by rfl) ?_) | fail); try simp -dsimp -implicitDefEqProofs (maxSteps := 1000000) (disch := first | omega | (simp only [LN]; omega)) only [go_sem])
    | fail)
   refine r_loopA (α := Nat) [0, 1, 98, 99] (fun r b => [(100, aI r)]) (fun r b => []) (fun r => []) (fun r => r ≤ A.n) (fun r => A.n - r) (0) ?h0_2 ?hs0_2 ?I_2 ?hI_2 ?round_2
   case hI_2 => intro x; (simp -dsimp -implicitDefEqProofs (maxSteps := 1000000) (disch := first | omega | (simp only [LN]; omega)) only [go_sem]) <;> exact rfl
   case hs0_2 => refine wk_auto ?_; (simp -dsimp -implicitDefEqProofs (maxSteps := 1000000) (disch := first | omega | (simp only [LN]; omega)) only [go_sem]) <;> (try omega)
   case h0_2 => exact Nat.zero_le _
   case round_2 =>
    intro r hr
    have w3 : IntKind.i64.wrap ((r : Int) + 1) = ((r + 1 : Nat) : Int) := by rw [IntKind.wrap_i64]; push_cast; omega
    by_cases hrn : r < A.n
    ·have kh := dHist6 A J N hI (by omega) r hrn
     have hg := lns_get A hrn
     have hll := hI.wf.len r (by omega)
     have ks := bSameW (A.hist r) (by omega)
     repeat' (first
      | (with_reducible first | apply zY | apply zT | apply zM | apply zN | apply zO | refine chk_ok (by kernel_rfl) ?_)
      | ((with_reducible first | apply zP | apply zQ | apply zR | apply zL) <;> intro h <;> try (exfalso; first | omega | exact h rfl | (revert h; decide) | (cases h; done)))
      | ((with_reducible show False); omega)
      | ((first | (with_reducible first | apply zW | apply zV | apply zU | apply zS | apply zX | show VX _ _ _ _ _ _ _ | show vstep _ _ _ _ _ | show vskip _ _ _ | show withV _ _) | ((with_reducible show endA _ _ _ _ _ _ _); simp -implicitDefEqProofs only [endA]) | (with_reducible first | refine zB default (by first | omega | (simp only [LN, hg, lnP, w3]; omega)) (by first | omega | (simp only [LN, hg, lnP, w3]; omega)) ?_ | refine zC default (by first | omega | (simp only [LN, hg, lnP, w3]; omega)) ?_ | refine And.intro (by first | decide | omega | assumption | (simp only [LN, hg, lnP, w3]; omega)) ?_) | ((with_reducible apply zD); (exact ks)) | ((with_reducible apply zE); (exact ks); rfl) | ((with_reducible apply zF); (exact ks)) | (with_reducible first | apply zG | apply zH | apply zI) | ((with_reducible apply zJ); (first | exact kh | fail)) | ((with_reducible show pickE _ _ _); first | refine zA _ ⟨by omega, by rfl⟩ ?_ | refine zA _ (by rfl) ?_) | fail); try simp -dsimp -implicitDefEqProofs (maxSteps := 1000000) (disch := first | omega | (simp only [LN, hg, lnP, w3]; omega)) only [go_sem, hg, lnP, w3])
      | fail)
     all_goals first | omega | (refine zZ (r + 1) ?_ ?_ ?_; (omega); (show _ < _; omega); (simp -dsimp -implicitDefEqProofs (maxSteps := 1000000) (disch := first | omega | (simp only [LN]; omega)) only [go_sem]; try trivial))
    ·obtain rfl : r = A.n := by omega
     clear w3
     repeat' (first
      | (with_reducible first | apply zY | apply zT | apply zM | apply zN | apply zO | refine chk_ok (by kernel_rfl) ?_)
      | ((with_reducible first | apply zP | apply zQ | apply zR | apply zL) <;> intro h <;> try (exfalso; first | omega | exact h rfl | (revert h; decide) | (cases h; done)))
      | ((with_reducible show False); omega)
      | ((first | (with_reducible first | apply zW | apply zV | apply zU | apply zS | apply zX | show VX _ _ _ _ _ _ _ | show vstep _ _ _ _ _ | show vskip _ _ _ | show withV _ _) | ((with_reducible show endA _ _ _ _ _ _ _); simp -implicitDefEqProofs only [endA]) | (with_reducible first | refine zB default (by first | omega | (simp only [LN]; omega)) (by first | omega | (simp only [LN]; omega)) ?_ | refine zC default (by first | omega | (simp only [LN]; omega)) ?_ | refine And.intro (by first | decide | omega | assumption | (simp only [LN]; omega)) ?_) | ((with_reducible show pickE _ _ _); first | refine zA _ ⟨by omega, by rfl⟩ ?_ | refine zA _ (by rfl) ?_) | fail); try simp -dsimp -implicitDefEqProofs (maxSteps := 1000000) (disch := first | omega | (simp only [LN]; omega)) only [go_sem])
      | fail)
     refine r_loopA (α := Nat) [0, 116] (fun k b => [(117, aI k)]) (fun k b => []) (fun k => []) (fun k => k ≤ 8) (fun k => 8 - k) (0) ?h0_3 ?hs0_3 ?I_3 ?hI_3 ?round_3
     case hI_3 => intro x; (simp -dsimp -implicitDefEqProofs (maxSteps := 1000000) (disch := first | omega | (simp only [LN]; omega)) only [go_sem]) <;> exact rfl
     case hs0_3 => refine wk_auto ?_; (simp -dsimp -implicitDefEqProofs (maxSteps := 1000000) (disch := first | omega | (simp only [LN]; omega)) only [go_sem]) <;> (try omega)
     case h0_3 => exact Nat.zero_le _
     case round_3 =>
      intro k hk
      have w3 : IntKind.i64.wrap ((k : Int) + 1) = ((k + 1 : Nat) : Int) := by rw [IntKind.wrap_i64]; push_cast; omega
      by_cases hk8 : k < 8
      ·have kt := dThread6 A J k hk8
       have ke := tErr6 A J k hk8
       have kd := tID6 A J k hk8
       have kz := tSize6 A J k hk8 h6
       repeat' (first
        | (with_reducible first | apply zY | apply zT | apply zM | apply zN | apply zO | refine chk_ok (by kernel_rfl) ?_)
        | ((with_reducible first | apply zP | apply zQ | apply zR | apply zL) <;> intro h <;> try (exfalso; first | omega | exact h rfl | (revert h; decide) | (cases h; done)))
        | ((with_reducible show False); omega)
        | ((first | (with_reducible first | apply zW | apply zV | apply zU | apply zS | apply zX | show VX _ _ _ _ _ _ _ | show vstep _ _ _ _ _ | show vskip _ _ _ | show withV _ _) | ((with_reducible show endA _ _ _ _ _ _ _); simp -implicitDefEqProofs only [endA]) | (with_reducible first | refine zB default (by first | omega | (simp only [LN]; omega)) (by first | omega | (simp only [LN]; omega)) ?_ | refine zC default (by first | omega | (simp only [LN]; omega)) ?_ | refine And.intro (by first | decide | omega | assumption | (simp only [LN]; omega)) ?_) | ((with_reducible show pickE _ _ _); first | refine zA _ ⟨by omega, by rfl⟩ ?_ | refine zA _ (by rfl) ?_) | fail); try simp -dsimp -implicitDefEqProofs (maxSteps := 1000000) (disch := first | omega | (simp only [LN]; omega)) only [go_sem])
        | fail)
       refine ⟨.p (.v (.int .i64 (A.err k))), by rcases lt8 hk8 with rfl | rfl | rfl | rfl | rfl | rfl | rfl | rfl <;> rfl, ?_⟩
       repeat' (first
        | (with_reducible first | apply zY | apply zT | apply zM | apply zN | apply zO | refine chk_ok (by kernel_rfl) ?_)
        | ((with_reducible first | apply zP | apply zQ | apply zR | apply zL) <;> intro h <;> try (exfalso; first | omega | exact h rfl | (revert h; decide) | (cases h; done)))
        | ((with_reducible show False); omega)
        | ((first | (with_reducible first | apply zW | apply zV | apply zU | apply zS | apply zX | show VX _ _ _ _ _ _ _ | show vstep _ _ _ _ _ | show vskip _ _ _ | show withV _ _) | ((with_reducible show endA _ _ _ _ _ _ _); simp -implicitDefEqProofs only [endA]) | (with_reducible first | refine zB default (by first | omega | (simp only [LN, w3]; omega)) (by first | omega | (simp only [LN, w3]; omega)) ?_ | refine zC default (by first | omega | (simp only [LN, w3]; omega)) ?_ | refine And.intro (by first | decide | omega | assumption | (simp only [LN, w3]; omega)) ?_) | (with_reducible first | apply zG | apply zH | apply zI) | ((with_reducible apply zJ); (first | exact kt | exact ke | exact kd | exact kz | exact k4 | fail)) | ((with_reducible show pickE _ _ _); first | refine zA _ ⟨by omega, by rfl⟩ ?_ | refine zA _ (by rfl) ?_) | fail); try simp -dsimp -implicitDefEqProofs (maxSteps := 1000000) (disch := first | omega | (simp only [LN, w3]; omega)) only [go_sem, w3])
        | fail)
       all_goals first | omega | (refine zZ (k + 1) ?_ ?_ ?_; (omega); (show _ < _; omega); (simp -dsimp -implicitDefEqProofs (maxSteps := 1000000) (disch := first | omega | (simp only [LN]; omega)) only [go_sem]; try trivial))
      ·obtain rfl : k = 8 := by omega
       repeat' (first
        | (with_reducible first | apply zY | apply zT | apply zM | apply zN | apply zO | refine chk_ok (by kernel_rfl) ?_)
        | ((with_reducible first | apply zP | apply zQ | apply zR | apply zL) <;> intro h <;> try (exfalso; first | omega | exact h rfl | (revert h; decide) | (cases h; done)))
        | ((with_reducible show False); omega)
        | ((first | (with_reducible first | apply zW | apply zV | apply zU | apply zS | apply zX | show VX _ _ _ _ _ _ _ | show vstep _ _ _ _ _ | show vskip _ _ _ | show withV _ _) | ((with_reducible show endA _ _ _ _ _ _ _); simp -implicitDefEqProofs only [endA]) | (with_reducible first | refine zB default (by first | omega | (simp only [LN]; omega)) (by first | omega | (simp only [LN]; omega)) ?_ | refine zC default (by first | omega | (simp only [LN]; omega)) ?_ | refine And.intro (by first | decide | omega | assumption | (simp only [LN]; omega)) ?_) | ((with_reducible show pickE _ _ _); first | refine zA _ ⟨by omega, by rfl⟩ ?_ | refine zA _ (by rfl) ?_) | fail); try simp -dsimp -implicitDefEqProofs (maxSteps := 1000000) (disch := first | omega | (simp only [LN]; omega)) only [go_sem])
        | fail)
       all_goals first | omega | rfl
end Go.Proofs.YtckhjklcfagkoaaGreatDoor
