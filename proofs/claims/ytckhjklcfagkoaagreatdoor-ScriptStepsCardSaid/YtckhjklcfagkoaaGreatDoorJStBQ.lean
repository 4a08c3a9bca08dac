/- Contracts of functions of this program, and the plain facts that they rest on. No conditions. -/
import Derived.Test.YtckhjklcfagkoaaGreatDoorJScOQ
import Derived.Test.YtckhjklcfagkoaaGreatDoorJScIQ
import Derived.Test.YtckhjklcfagkoaaGreatDoorRvTQ
import Derived.Test.YtckhjklcfagkoaaGreatDoorEnv2
import Derived.ProofKit
set_option linter.unusedSimpArgs false
set_option linter.unusedVariables false
namespace Go.Proofs.YtckhjklcfagkoaaGreatDoor
set_option maxHeartbeats 4000000
set_option maxRecDepth 100000
open Go Go.Ab
attribute [local irreducible] callK callF loopQ vstep vskip pickE hideP
open Go.RowKit
attribute [local go_sem] eE rE eU deO peO cuO liO thO hiO noO rdO rlO nilE lns_len
theorem cSteps (a : Int) (ha : -9223372036854775808 ≤ a ∧ a ≤ 9223372036854775807) (l3 : List E3) (hl3 : l3.length ≤ 140737488355328) (hR3 : ∀ x, x ∈ l3 → Rng3 x) (l : List Ev) (hR : ∀ x, x ∈ l → Rng x ∧ x.ch.length ≤ 140737488355328) : PCalls Tryz.prog 3 [.agg [.v (.int .i64 a), .view 6 (l3.map e3)], .view 8 (l.map rE)] (.v (.bool true)) := by
 refine yD ⟨_, rfl, rfl, by decide⟩ fun hf => ?_
 simp only [go_sem, big] at hf
 refine yB (E := E) (fn := Tryz.f3) 93 [.tmp 4] rfl rfl rfl rfl (by decide) rfl ?_
 have k0 := bPlay a ha l3 hl3 hR3 15 (by decide)
 have k1 := bFew l 25 (by decide) (fun x hx => (hR x hx).2)
 have hF := few_rng2 (n := 25) (fun x hx => (hR x hx).1)
 have hFl := few_len2 l 25
 generalize fewE l 25 = m at *
 have kn := dStepNil
 repeat' (first
  | (with_reducible first | apply zY | apply zT | apply zM | apply zN | apply zO | refine chk_ok (by kernel_rfl) ?_)
  | ((with_reducible first | apply zP | apply zQ | apply zR | apply zL) <;> intro h <;> try (exfalso; first | omega | exact h rfl | (revert h; decide) | (cases h; done)))
  | ((with_reducible show False); omega)
  | ((with_reducible first | refine r_gr0 [9] (by with_unfolding_all exact rfl) ?_ | refine r_gr1 [9] (by with_unfolding_all exact rfl) ?_ | refine r_gr2 [9] (by with_unfolding_all exact rfl) ?_ | refine r_gr3 [9] (by with_unfolding_all exact rfl) ?_ | refine r_gr4 [9] (by with_unfolding_all exact rfl) ?_ | refine r_gr5 [9] (by with_unfolding_all exact rfl) ?_ | refine r_gr6 [9] (by with_unfolding_all exact rfl) ?_ | refine r_gr7 [9] (by with_unfolding_all exact rfl) ?_ | refine r_gr8 [9] (by with_unfolding_all exact rfl) ?_ | refine r_gr9 [9] (by with_unfolding_all exact rfl) ?_ | refine r_gr10 [9] (by with_unfolding_all exact rfl) ?_); simp -dsimp -implicitDefEqProofs (maxSteps := 1000000) (disch := first | omega | (simp only [LN]; omega)) only [go_sem])
  | ((first | (with_reducible first | apply zW | apply zV | apply zU | apply zS | apply zX | show VX _ _ _ _ _ _ _ | show vstep _ _ _ _ _ | show vskip _ _ _ | show withV _ _) | ((with_reducible show endA _ _ _ _ _ _ _); simp -implicitDefEqProofs only [endA]) | (with_reducible first | refine zB default (by first | omega | (simp only [LN]; omega)) (by first | omega | (simp only [LN]; omega)) ?_ | refine zC default (by first | omega | (simp only [LN]; omega)) ?_ | refine And.intro (by first | decide | omega | assumption | (simp only [LN]; omega)) ?_) | ((with_reducible apply zD); (first | exact sAwake | exact k1 | exact kn | fail)) | ((with_reducible apply zE); (first | exact sAwake | exact k1 | exact kn | fail); rfl) | ((with_reducible apply zF); (first | exact sAwake | exact k1 | exact kn | fail)) | ((with_reducible apply zK); (first | exact k0 | fail); intro gq) | ((with_reducible show pickE _ _ _); first | refine zA _ ⟨by omega, by rfl⟩ ?_ | refine zA _ (by rfl) ?_) | fail); try simp -dsimp -implicitDefEqProofs (maxSteps := 1000000) (disch := first | omega | (simp only [LN]; omega)) only [go_sem])
  | fail)
 all_goals try omega
 obtain ⟨⟨A0, J1, M1⟩, h0⟩ := gq
 refine r_loop (α := Nat × St3) (fun y => ⟨93, [(5, some (.loc 0 0)), (6, some (.loc 26 0)), (30, some (.p (.view 8 (m.map rE)))), (31, some (.p (.v (.int .i64 m.length)))), (32, some (.p (.v (.int .i64 y.1))))], someL (dvL y.2.1 y.2.2.1) ++ [some (rdO y.2.1 y.2.2.2 27), some (rlO y.2.1)]⟩)
  (fun y => y.1 ≤ m.length ∧ Ok3 (15 + y.1) y.2) (fun y => m.length - y.1) (0, (A0, J1, M1)) ⟨Nat.zero_le _, h0⟩ ?_ ?_
 ·refine wk_auto ?_
  simp -dsimp -implicitDefEqProofs (maxSteps := 1000000) (disch := first | omega | (simp only [LN]; omega)) only [go_sem]
 ·rintro ⟨i, A, J, M⟩ ⟨hi, hI, hRI⟩
  simp only at hi hI hRI
  have w3 : IntKind.i64.wrap ((i : Int) + 1) = ((i + 1 : Nat) : Int) := by rw [IntKind.wrap_i64]; push_cast; omega
  by_cases him : i < m.length
  ·obtain ⟨hRx, hkx, hcx⟩ := hF _ (getD_in him)
   have k2 := bOwn (m.getD i default) hkx (by omega)
   by_cases hx : okE (m.getD i default) = true ∧ (m.getD i default).k = 7
   ·have ks := dStep7 A J (15 + i) hI (by omega) (m.getD i default) hx.1 hx.2
    have kr := rStep7 A M (15 + i) hRI (m.getD i default) hx.1 hx.2
    have hI2 : Inv (A.step (m.getD i default)) J0 (15 + (i + 1)) := by rw [step_7 hx]; exact hI.crash _
    have hR2 : RInv (A.step (m.getD i default)) M0 (15 + (i + 1)) := by rw [step_7 hx]; exact (RInv.crash ⟨hI.wf.n0, hI.wf.n6⟩ _ (by rw [← step_7 hx]; exact hI2.wf)).le (by omega)
    have kS := bSame3 (A.step (m.getD i default)) J0 M0 (15 + (i + 1)) hI2 (by omega) hR2
    generalize hxx : m.getD i default = x at *
    generalize hB : A.step x = B at *
    repeat' (first
     | (with_reducible first | apply zY | apply zT | apply zM | apply zN | apply zO | refine chk_ok (by kernel_rfl) ?_)
     | ((with_reducible first | apply zP | apply zQ | apply zR | apply zL) <;> intro h <;> try (exfalso; first | omega | exact h rfl | (revert h; decide) | (cases h; done)))
     | ((with_reducible show False); omega)
     | ((first | (with_reducible first | apply zW | apply zV | apply zU | apply zS | apply zX | show VX _ _ _ _ _ _ _ | show vstep _ _ _ _ _ | show vskip _ _ _ | show withV _ _) | ((with_reducible show endA _ _ _ _ _ _ _); simp -implicitDefEqProofs only [endA]) | (with_reducible first | refine zB default (by first | omega | (simp only [LN, hxx, w3]; omega)) (by first | omega | (simp only [LN, hxx, w3]; omega)) ?_ | refine zC default (by first | omega | (simp only [LN, hxx, w3]; omega)) ?_ | refine And.intro (by first | decide | omega | assumption | (simp only [LN, hxx, w3]; omega)) ?_) | ((with_reducible apply zD); (exact k2)) | ((with_reducible apply zE); (exact k2); rfl) | ((with_reducible apply zF); (exact k2)) | (with_reducible first | apply zG | apply zH | apply zI) | ((with_reducible apply zJ); (first | exact ks | exact kr | exact kS | fail)) | ((with_reducible show pickE _ _ _); first | refine zA _ ⟨by omega, by rfl⟩ ?_ | refine zA _ (by rfl) ?_) | fail); try simp -dsimp -implicitDefEqProofs (maxSteps := 1000000) (disch := first | omega | (simp only [LN, hxx, w3]; omega)) only [go_sem, hxx, w3])
     | fail)
    all_goals first | omega | ((refine zZ ((i + 1, B, J0, M0)) ?_ ?_ ?_; (exact ⟨by show i + 1 ≤ _; omega, hI2, hR2⟩); (show _ < _; omega); (simp -dsimp -implicitDefEqProofs (maxSteps := 1000000) (disch := first | omega | (simp only [LN]; omega)) only [go_sem]; try trivial)))
   ·have ks := dStepX A J (15 + i) hI (by omega) (m.getD i default) hRx (by omega) hx
    have kr := rStepX A M (15 + i) hRI (by omega) hI.no (m.getD i default) hRx (by omega) hx
    have hR2 := fun hw => hRI.step hI.no hRx (x := m.getD i default) hw
    generalize hxx : m.getD i default = x at *
    generalize hB : A.step x = B at *
    generalize hE : A.stepE x = er at *
    generalize hE2 : A.stepB x = br at *
    generalize Mv A M x = M2 at *
    repeat' (first
     | (with_reducible first | apply zY | apply zT | apply zM | apply zN | apply zO | refine chk_ok (by kernel_rfl) ?_)
     | ((with_reducible first | apply zP | apply zQ | apply zR | apply zL) <;> intro h <;> try (exfalso; first | omega | exact h rfl | (revert h; decide) | (cases h; done)))
     | ((with_reducible show False); omega)
     | ((with_reducible first | refine r_gr0 [12] (by with_unfolding_all exact rfl) ?_ | refine r_gr1 [12] (by with_unfolding_all exact rfl) ?_ | refine r_gr2 [12] (by with_unfolding_all exact rfl) ?_ | refine r_gr3 [12] (by with_unfolding_all exact rfl) ?_ | refine r_gr4 [12] (by with_unfolding_all exact rfl) ?_ | refine r_gr5 [12] (by with_unfolding_all exact rfl) ?_ | refine r_gr6 [12] (by with_unfolding_all exact rfl) ?_ | refine r_gr7 [12] (by with_unfolding_all exact rfl) ?_ | refine r_gr8 [12] (by with_unfolding_all exact rfl) ?_ | refine r_gr9 [12] (by with_unfolding_all exact rfl) ?_ | refine r_gr10 [12] (by with_unfolding_all exact rfl) ?_); simp -dsimp -implicitDefEqProofs (maxSteps := 1000000) (disch := first | omega | (simp only [LN, hxx, w3]; omega)) only [go_sem, hxx, w3])
     | ((first | (with_reducible first | apply zW | apply zV | apply zU | apply zS | apply zX | show VX _ _ _ _ _ _ _ | show vstep _ _ _ _ _ | show vskip _ _ _ | show withV _ _) | ((with_reducible show endA _ _ _ _ _ _ _); simp -implicitDefEqProofs only [endA]) | (with_reducible first | refine zB default (by first | omega | (simp only [LN, hxx, w3]; omega)) (by first | omega | (simp only [LN, hxx, w3]; omega)) ?_ | refine zC default (by first | omega | (simp only [LN, hxx, w3]; omega)) ?_ | refine And.intro (by first | decide | omega | assumption | (simp only [LN, hxx, w3]; omega)) ?_) | ((with_reducible apply zD); (exact k2)) | ((with_reducible apply zE); (exact k2); rfl) | ((with_reducible apply zF); (exact k2)) | (with_reducible first | apply zG | apply zH | apply zI) | ((with_reducible apply zJ); (first | exact kr | fail)) | ((with_reducible apply zK); (first | exact ks | fail); intro gq) | ((with_reducible show pickE _ _ _); first | refine zA _ ⟨by omega, by rfl⟩ ?_ | refine zA _ (by rfl) ?_) | fail); try simp -dsimp -implicitDefEqProofs (maxSteps := 1000000) (disch := first | omega | (simp only [LN, hxx, w3]; omega)) only [go_sem, hxx, w3])
     | fail)
    all_goals try omega
    all_goals first
     | (obtain ⟨J2, hI2⟩ := gq
        have hR3 := hR2 hI2.wf
        have kS := bSame3 B J2 M2 (15 + i + 1) hI2 (by omega) hR3
        simp only at *
        repeat' (first
         | (with_reducible first | apply zY | apply zT | apply zM | apply zN | apply zO | refine chk_ok (by kernel_rfl) ?_)
         | ((with_reducible first | apply zP | apply zQ | apply zR | apply zL) <;> intro h <;> try (exfalso; first | omega | exact h rfl | (revert h; decide) | (cases h; done)))
         | ((with_reducible show False); omega)
         | ((first | (with_reducible first | apply zW | apply zV | apply zU | apply zS | apply zX | show VX _ _ _ _ _ _ _ | show vstep _ _ _ _ _ | show vskip _ _ _ | show withV _ _) | ((with_reducible show endA _ _ _ _ _ _ _); simp -implicitDefEqProofs only [endA]) | (with_reducible first | refine zB default (by first | omega | (simp only [LN, hxx, w3]; omega)) (by first | omega | (simp only [LN, hxx, w3]; omega)) ?_ | refine zC default (by first | omega | (simp only [LN, hxx, w3]; omega)) ?_ | refine And.intro (by first | decide | omega | assumption | (simp only [LN, hxx, w3]; omega)) ?_) | (with_reducible first | apply zG | apply zH | apply zI) | ((with_reducible apply zJ); (first | exact kS | fail)) | ((with_reducible show pickE _ _ _); first | refine zA _ ⟨by omega, by rfl⟩ ?_ | refine zA _ (by rfl) ?_) | fail); try simp -dsimp -implicitDefEqProofs (maxSteps := 1000000) (disch := first | omega | (simp only [LN, hxx, w3]; omega)) only [go_sem, hxx, w3])
         | fail)
        all_goals first | omega | ((refine zZ ((i + 1, B, J2, M2)) ?_ ?_ ?_; (exact ⟨by show i + 1 ≤ _; omega, hI2, hR3⟩); (show _ < _; omega); (simp -dsimp -implicitDefEqProofs (maxSteps := 1000000) (disch := first | omega | (simp only [LN]; omega)) only [go_sem]; try trivial))))
  ·obtain rfl : i = m.length := by omega
   repeat' (first
    | (with_reducible first | apply zY | apply zT | apply zM | apply zN | apply zO | refine chk_ok (by kernel_rfl) ?_)
    | ((with_reducible first | apply zP | apply zQ | apply zR | apply zL) <;> intro h <;> try (exfalso; first | omega | exact h rfl | (revert h; decide) | (cases h; done)))
    | ((with_reducible show False); omega)
    | ((first | (with_reducible first | apply zW | apply zV | apply zU | apply zS | apply zX | show VX _ _ _ _ _ _ _ | show vstep _ _ _ _ _ | show vskip _ _ _ | show withV _ _) | ((with_reducible show endA _ _ _ _ _ _ _); simp -implicitDefEqProofs only [endA]) | (with_reducible first | refine zB default (by first | omega | (simp only [LN]; omega)) (by first | omega | (simp only [LN]; omega)) ?_ | refine zC default (by first | omega | (simp only [LN]; omega)) ?_ | refine And.intro (by first | decide | omega | assumption | (simp only [LN]; omega)) ?_) | ((with_reducible apply zD); (exact kn)) | ((with_reducible apply zE); (exact kn); rfl) | ((with_reducible apply zF); (exact kn)) | ((with_reducible show pickE _ _ _); first | refine zA _ ⟨by omega, by rfl⟩ ?_ | refine zA _ (by rfl) ?_) | fail); try simp -dsimp -implicitDefEqProofs (maxSteps := 1000000) (disch := first | omega | (simp only [LN]; omega)) only [go_sem])
    | fail)
   all_goals first | omega | rfl
end Go.Proofs.YtckhjklcfagkoaaGreatDoor
namespace Go.Proofs.YtckhjklcfagkoaaGreatDoor
open Go Go.Ab
attribute [local irreducible] callK callF loopQ vstep vskip pickE hideP
set_option maxRecDepth 100000
theorem bytes_of {es : List (List PV)} (g : ∀ c, c ∈ es → Shp E.tys 3 5 c) : ∃ a : List UInt8, es.map (wrapP false) = a.map eB ∧ a.length = es.length := by
 obtain ⟨a, e, hl, _⟩ := shp_list (f := eB) (Q := fun _ => True) (agg := false) (es := es) (fun c hc => by
  have := g c hc
  simp only [Shp, ty5, u5] at this
  obtain ⟨x, rfl, hx⟩ := this
  have hr := rng_u8 hx
  refine ⟨UInt8.ofNat x.toNat, ?_, trivial⟩
  have e : ((UInt8.ofNat x.toNat).toNat : Int) = x := by simp; omega
  show PV.v (.int .u8 x) = PV.v (.int .u8 ((UInt8.ofNat x.toNat).toNat : Int))
  rw [e])
 exact ⟨a, e, hl⟩
theorem ev_of {c : List PV} (h : Shp E.tys 5 35 c) : ∃ x : Ev, wrapP true c = rE x ∧ Rng x ∧ x.ch.length ≤ 140737488355328 := by
 simp only [Shp, ty35, u35, shpF, ty3, u3, ty32, u32, ty33, u33] at h
 obtain ⟨_, _, rfl, ⟨x1, rfl, h1⟩, _, _, rfl, ⟨x2, rfl, h2⟩, _, _, rfl, ⟨x3, rfl, h3⟩, _, _, rfl, ⟨x4, rfl, h4⟩, _, _, rfl, ⟨x5, rfl, h5⟩, _, _, rfl, ⟨x6, rfl, h6⟩, _, _, rfl, ⟨x7, rfl, h7⟩, _, _, rfl, ⟨es, rfl, hl, g⟩, rfl⟩ := h
 obtain ⟨a, e, hla⟩ := bytes_of g
 have r1 := rng_u64 h3
 have r2 := rng_u64 h4
 have r3 := rng_u64 h5
 refine ⟨⟨x1, x2, x3, x4, x5, x6, x7, a⟩, ?_, ⟨h2, r1, r2, r3, h6, h7⟩, ?_⟩
 ·show PV.agg _ = PV.agg _
  congr 1
  show [PV.v (.int .i64 x1), PV.v (.int .i64 x2), PV.v (.int .u64 x3), PV.v (.int .u64 x4), PV.v (.int .u64 x5), PV.v (.int .i64 x6), PV.v (.int .i64 x7), _] = [PV.v (.int .i64 x1), PV.v (.int .i64 x2), PV.v (.int .u64 x3), PV.v (.int .u64 x4), PV.v (.int .u64 x5), PV.v (.int .i64 x6), PV.v (.int .i64 x7), PV.view 1 (a.map eB)]
  rw [← e]
  rfl
 ·show a.length ≤ _
  rw [hla]
  have : es.length * 1 ≤ reachBytes := hl
  simp only [reachBytes] at this
  omega
end Go.Proofs.YtckhjklcfagkoaaGreatDoor
namespace Go.Proofs.YtckhjklcfagkoaaGreatDoor
open Go Go.Ab
attribute [local irreducible] callK callF loopQ vstep vskip pickE hideP
open Go.RowKit
set_option maxRecDepth 100000
theorem e3_of {c : List PV} (h : Shp E.tys 4 69 c) : ∃ x : E3, wrapP true c = e3 x ∧ Rng3 x := by
 simp only [Shp, ty69, u69, shpF, ty3, u3, ty32, u32] at h
 obtain ⟨_, _, rfl, ⟨x1, rfl, h1⟩, _, _, rfl, ⟨x2, rfl, h2⟩, _, _, rfl, ⟨x3, rfl, h3⟩, _, _, rfl, ⟨x4, rfl, h4⟩, _, _, rfl, ⟨x5, rfl, h5⟩, _, _, rfl, ⟨x6, rfl, h6⟩, rfl⟩ := h
 exact ⟨⟨x1, x2, x3, x4, x5, x6⟩, rfl, ⟨h1, h2, rng_u64 h3, rng_u64 h4, rng_u64 h5, h6⟩⟩
theorem run_of {c : List PV} (h : Shp E.tys 6 24 c) : ∃ (a : Int) (l : List E3), wrapP true c = .agg [.v (.int .i64 a), .view 6 (l.map e3)] ∧ (-9223372036854775808 ≤ a ∧ a ≤ 9223372036854775807) ∧ (∀ x, x ∈ l → Rng3 x) ∧ l.length ≤ 140737488355328 := by
 simp only [Shp, ty24, u24, shpF, ty3, u3, ty22, u22] at h
 obtain ⟨_, _, rfl, ⟨a, rfl, ha⟩, _, _, rfl, ⟨es, rfl, hl, g⟩, rfl⟩ := h
 obtain ⟨l, e, hl2, q⟩ := shp_list (f := e3) (Q := Rng3) (agg := true) (es := es) (fun c hc => e3_of (g c hc))
 refine ⟨a, l, ?_, ha, q, ?_⟩
 ·show PV.agg [PV.v (.int .i64 a), PV.view 6 (es.map (wrapP true))] = _
  rw [e]
 ·rw [hl2]
  have : es.length * 48 ≤ reachBytes := hl
  simp only [reachBytes] at this
  omega
theorem evs_of {es : List (List PV)} (g : ∀ c, c ∈ es → Shp E.tys 5 35 c) : ∃ l : List Ev, es.map (wrapP true) = l.map rE ∧ ∀ x, x ∈ l → Rng x ∧ x.ch.length ≤ 140737488355328 := by
 obtain ⟨l, e0, _, q⟩ := shp_list (f := rE) (Q := fun x => Rng x ∧ x.ch.length ≤ 140737488355328) (agg := true) (es := es) (fun c hc => by
  obtain ⟨x, e, R, hx⟩ := ev_of (g c hc)
  exact ⟨x, e, R, hx⟩)
 exact ⟨l, e0, q⟩
end Go.Proofs.YtckhjklcfagkoaaGreatDoor
namespace Go.Proofs.YtckhjklcfagkoaaGreatDoor
end Go.Proofs.YtckhjklcfagkoaaGreatDoor
namespace Go.Proofs.YtckhjklcfagkoaaGreatDoor
open Go Go.Ab
theorem gl_of {W : World} (hs : W.ShapedOpen Tryz.prog) {rest : List (String × DataW Unit)} (hl : laidMet Tryz.prog (("internal/strconv.uint64pow10", Lib.tabData .u64 Lib.pow10Tab) :: rest) W) : Glob.G (Zall W) W := by
 have h1 : Lib.TabIs Tryz.prog W "internal/strconv.uint64pow10" .u64 Lib.pow10Tab :=
  Lib.tabIs_of_head (g := 1) (t := 202) (e := 32) (n := 20) gn0 (by kernel_rfl) (by kernel_rfl) (by kernel_rfl) (by kernel_rfl) (by kernel_rfl) hl
 obtain ⟨m, h2⟩ := cell_of_shapedOpen_int (g := 0) (t := 3) (zero := #[.int .i64 0]) (k := .i64) hs (of_decide_eq_true (by kernel_rfl)) (by kernel_rfl) rfl (by kernel_rfl) (by kernel_rfl) (by kernel_rfl)
 exact ⟨⟨tabIs_lt gn0 h1, cell_lt h2⟩, h1, m, h2⟩
end Go.Proofs.YtckhjklcfagkoaaGreatDoor
