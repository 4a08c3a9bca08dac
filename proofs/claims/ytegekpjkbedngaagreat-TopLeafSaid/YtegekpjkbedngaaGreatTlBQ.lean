/- Contracts of functions of this program, and the plain facts that they rest on. No conditions. -/
import Derived.Test.YtegekpjkbedngaaGreatJTlAQ
import Derived.Test.YtegekpjkbedngaaGreatJRgAQ
set_option linter.unusedSectionVars false
set_option linter.unusedSimpArgs false
set_option linter.unusedVariables false
namespace Go.Proofs.YtegekpjkbedngaaGreat
set_option maxHeartbeats 4000000
set_option maxRecDepth 100000
open Go Go.Ab
attribute [local irreducible] callK callF loopQ vstep vskip pickE hideP
attribute [local go_sem] eU deO peO cuO liO thO hiO noO eWr pushT zipT eP stO
theorem w0L_get {i : Nat} (hi : i < 28) : w0L.getD i default = w0 i := by
 unfold w0L; rw [List.getD_eq_getElem?_getD]; simp [hi]
theorem w0_rng (i : Nat) : 0 ≤ w0 i ∧ w0 i ≤ 18446744073709551615 := by
 unfold w0; split
 ·simp
 ·split
  ·simp
  ·split <;> simp
attribute [local go_sem] eOp eSet eHs eNd
theorem topLeaf (l : List LOp) (hR : ∀ x, x ∈ l → RngO x) (x : Int) (hx : 0 ≤ x ∧ x ≤ 255) : PCalls Tryz.prog 3 [.view 3 (l.map eOp), .v (.int .u8 x)] (.v (.bool true)) := by
 refine yD ⟨_, rfl, rfl, by decide⟩ fun hf => ?_
 simp only [go_sem, big] at hf
 refine yB (E := E) (fn := Tryz.f3) 215 [.cell 4 4] rfl rfl rfl rfl (by decide) rfl ?_
 obtain ⟨a, ha, hxa⟩ : ∃ a : Nat, a < 30 ∧ x % 30 = a := ⟨(x % 30).toNat, by omega, by omega⟩
 have c1 : IntKind.u8.wrap (x.tmod 30) = a := by rw [Int.tmod_eq_emod_of_nonneg hx.1, hxa, IntKind.wrap_u8]; omega
 have c1b : x.tmod 30 = a := by rw [Int.tmod_eq_emod_of_nonneg hx.1, hxa]
 have c1c : IntKind.u8.wrap (a : Int) = a := by rw [IntKind.wrap_u8]; omega
 have c2 := u64w (x := (a : Int)) (by omega) (by omega)
 have c3 := u64w (x := 8 * (a : Int)) (by omega) (by omega)
 have c4 : IntKind.u64.wrap (8 + 8 * (a : Int)) = (wO a 0 : Nat) := (u64w (by omega) (by omega)).trans (by rw [wO_def]; omega)
 have k0 := dNew6 8 (by omega)
 rw [show 8 * 8 = 64 from rfl] at k0
 have I0 : Inv (Dv.fresh 8 (List.replicate 64 0)) J0 0 := Inv.fresh 8 _ (by omega) (by omega) (by simp)
 obtain ⟨ws0, P0, L0, N0, E0⟩ := init_node ha
 have hw0 : w0L.length = 28 := by simp [w0L]
 have kst := kStores a ha w0
 have kth := dThread6 (Dv.fresh 8 (List.replicate 64 0)) J0 0 (by omega)
 have krun := kRun (Dv.fresh 8 (List.replicate 64 0)) J0 0 I0 (stP a w0) (by
  have : (cpN (lnL a) 28).length < 28 := lnL_cp a
  unfold stP; simp [wsI_len]; omega) (stP_rng ha fun i _ => w0_rng i)
 have hwl := wsI_len a w0
 have herr := P0.cl.err 0
 rw [herr] at krun
 generalize Dv.fresh 8 (List.replicate 64 0) = A0 at *
 repeat' (first
  | (with_reducible first | apply zY | apply zT | apply zM | apply zN | apply zO | refine chk_ok (by kernel_rfl) ?_)
  | ((with_reducible first | apply zP | apply zQ | apply zR | apply zL) <;> intro h <;> try (exfalso; first | omega | exact h rfl | (revert h; decide) | (cases h; done)))
  | ((with_reducible show False); omega)
  | ((first | (with_reducible first | apply zW | apply zV | apply zU | apply zS | apply zX | show VX _ _ _ _ _ _ _ | show vstep _ _ _ _ _ | show vskip _ _ _ | show withV _ _) | ((with_reducible show endA _ _ _ _ _ _ _); simp -implicitDefEqProofs only [endA]) | (with_reducible first | refine zB default (by first | omega | (simp only [LN, c1, c1b, c1c, c2, c3, c4, hw0]; omega)) (by first | omega | (simp only [LN, c1, c1b, c1c, c2, c3, c4, hw0]; omega)) ?_ | refine zC default (by first | omega | (simp only [LN, c1, c1b, c1c, c2, c3, c4, hw0]; omega)) ?_ | refine And.intro (by first | decide | omega | assumption | (simp only [LN, c1, c1b, c1c, c2, c3, c4, hw0]; omega)) ?_) | ((with_reducible apply zD); (first | exact qMake a ha | exact kEncode | fail)) | ((with_reducible apply zE); (first | exact qMake a ha | exact kEncode | fail); rfl) | ((with_reducible apply zF); (first | exact qMake a ha | exact kEncode | fail)) | (with_reducible first | apply zG | apply zH | apply zI | apply hidePI_own) | ((with_reducible apply zJ); (first | exact k0 | fail)) | ((with_reducible show pickE _ _ _); first | refine zA _ ⟨by omega, by rfl⟩ ?_ | refine zA _ (by rfl) ?_) | fail); try simp -dsimp -implicitDefEqProofs (maxSteps := 1000000) (disch := first | omega | (simp only [LN, c1, c1b, c1c, c2, c3, c4, hw0]; omega)) only [go_sem, c1, c1b, c1c, c2, c3, c4, hw0])
  | fail)
 all_goals try omega
 refine r_loopA (α := Nat) [0, 4, 5, 7, 26, 65, 66, 181, 211] (fun i b => [(67, aI i), (11, .sl b 2 0 i)]) (fun i b => []) (fun i => [.arr 2 (((wsI a w0).take i).map eWr)]) (fun i => i ≤ 28) (fun i => 28 - i) (0) ?h0_1 ?hs0_1 ?I_1 ?hI_1 ?round_1
 case hI_1 => intro x; (simp -dsimp -implicitDefEqProofs (maxSteps := 1000000) (disch := first | omega | (simp only [LN]; omega)) only [go_sem]) <;> exact rfl
 case hs0_1 => refine wk_auto ?_; (simp -dsimp -implicitDefEqProofs (maxSteps := 1000000) (disch := first | omega | (simp only [LN, List.take_zero]; omega)) only [go_sem, List.take_zero]) <;> (try omega)
 case h0_1 => exact Nat.zero_le _
 case round_1 =>
  intro i hi
  have w3 : IntKind.i64.wrap ((i : Int) + 1) = ((i + 1 : Nat) : Int) := by rw [IntKind.wrap_i64]; push_cast; omega
  by_cases hi2 : i < 28
  ·have hg := w0L_get hi2
   have hs1 : (wsI a w0).take (i + 1) = (wsI a w0).take i ++ [(((wO a i : Nat) : Int), w0 i)] := by rw [yE default (by rw [wsI_len]; exact hi2), wsI_get a w0 hi2]
   have hln : ((wsI a w0).take i).length = i := by rw [List.length_take, wsI_len]; omega
   have k := qAt a ha i hi2
   repeat' (first
    | (with_reducible first | apply zY | apply zT | apply zM | apply zN | apply zO | refine chk_ok (by kernel_rfl) ?_)
    | ((with_reducible first | apply zP | apply zQ | apply zR | apply zL) <;> intro h <;> try (exfalso; first | omega | exact h rfl | (revert h; decide) | (cases h; done)))
    | ((with_reducible show False); omega)
    | ((first | (with_reducible first | apply zW | apply zV | apply zU | apply zS | apply zX | show VX _ _ _ _ _ _ _ | show vstep _ _ _ _ _ | show vskip _ _ _ | show withV _ _) | ((with_reducible show endA _ _ _ _ _ _ _); simp -implicitDefEqProofs only [endA]) | (with_reducible first | refine zB default (by first | omega | (simp only [LN, hg, hw0, hwl]; omega)) (by first | omega | (simp only [LN, hg, hw0, hwl]; omega)) ?_ | refine zC default (by first | omega | (simp only [LN, hg, hw0, hwl]; omega)) ?_ | refine And.intro (by first | decide | omega | assumption | (simp only [LN, hg, hw0, hwl]; omega)) ?_) | ((with_reducible apply zD); (exact k)) | ((with_reducible apply zE); (exact k); rfl) | ((with_reducible apply zF); (exact k)) | ((with_reducible show pickE _ _ _); first | refine zA _ ⟨by omega, by rfl⟩ ?_ | refine zA _ (by rfl) ?_) | fail); try simp -dsimp -implicitDefEqProofs (maxSteps := 1000000) (disch := first | omega | (simp only [LN, hg, hw0, hwl]; omega)) only [go_sem, hg, hw0, hwl])
    | fail)
   all_goals first | omega | ((refine zZ (i + 1) ?_ ?_ ?_; (omega); (show _ < _; omega); (simp -dsimp -implicitDefEqProofs (maxSteps := 1000000) (disch := first | omega | (simp only [LN, w3, hs1, List.map_append]; omega)) only [go_sem, w3, hs1, List.map_append]; try trivial)))
  ·obtain rfl : i = 28 := by omega
   have ht : (wsI a w0).take 28 = wsI a w0 := List.take_of_length_le (by rw [wsI_len]; omega)
   repeat' ((fail_if_success (with_reducible show awp _ _ (Code.region 14 _ _) _ _)); first
    | (with_reducible first | apply zY | apply zT | apply zM | apply zN | apply zO | refine chk_ok (by kernel_rfl) ?_)
    | ((with_reducible first | apply zP | apply zQ | apply zR | apply zL) <;> intro h <;> try (exfalso; first | omega | exact h rfl | (revert h; decide) | (cases h; done)))
    | ((with_reducible show False); omega)
    | ((with_reducible first | refine r_gr0 [10] (by with_unfolding_all exact rfl) ?_ | refine r_gr1 [10] (by with_unfolding_all exact rfl) ?_ | refine r_gr2 [10] (by with_unfolding_all exact rfl) ?_ | refine r_gr3 [10] (by with_unfolding_all exact rfl) ?_ | refine r_gr4 [10] (by with_unfolding_all exact rfl) ?_ | refine r_gr5 [10] (by with_unfolding_all exact rfl) ?_ | refine r_gr6 [10] (by with_unfolding_all exact rfl) ?_ | refine r_gr7 [10] (by with_unfolding_all exact rfl) ?_ | refine r_gr8 [10] (by with_unfolding_all exact rfl) ?_ | refine r_gr9 [10] (by with_unfolding_all exact rfl) ?_ | refine r_gr10 [10] (by with_unfolding_all exact rfl) ?_); simp -dsimp -implicitDefEqProofs (maxSteps := 1000000) (disch := first | omega | (simp only [LN, ht, hw0, hwl]; omega)) only [go_sem, ht, hw0, hwl])
    | ((first | (with_reducible first | apply zW | apply zV | apply zU | apply zS | apply zX | show VX _ _ _ _ _ _ _ | show vstep _ _ _ _ _ | show vskip _ _ _ | show withV _ _) | ((with_reducible show endA _ _ _ _ _ _ _); simp -implicitDefEqProofs only [endA]) | (with_reducible first | refine zB default (by first | omega | (simp only [LN, ht, hw0, hwl]; omega)) (by first | omega | (simp only [LN, ht, hw0, hwl]; omega)) ?_ | refine zC default (by first | omega | (simp only [LN, ht, hw0, hwl]; omega)) ?_ | refine And.intro (by first | decide | omega | assumption | (simp only [LN, ht, hw0, hwl]; omega)) ?_) | ((with_reducible apply zD); (exact kst)) | ((with_reducible apply zE); (exact kst); rfl) | ((with_reducible apply zF); (exact kst)) | (with_reducible first | apply zG | apply zH | apply zI | apply hidePI_own) | ((with_reducible apply zJ); (first | exact kth | fail)) | ((with_reducible apply zK); (first | exact krun | fail); intro gq) | ((with_reducible show pickE _ _ _); first | refine zA _ ⟨by omega, by rfl⟩ ?_ | refine zA _ (by rfl) ?_) | fail); try simp -dsimp -implicitDefEqProofs (maxSteps := 1000000) (disch := first | omega | (simp only [LN, ht, hw0, hwl]; omega)) only [go_sem, ht, hw0, hwl])
    | fail)
   all_goals try omega
   obtain ⟨J1, I1⟩ := gq
   clear k0 kst kth krun I0
   generalize A0.execs (stP a w0) = A1 at *
   have R1 : Rest A1 J1 (0 + (stP a w0).length) a ws0 [0] 0 := ⟨I1, P0, L0, N0⟩
   have kth := dThread6 A1 J1 0 (by omega)
   have klf := kLfAt0 A1 J1 a
   repeat' (first
    | (with_reducible first | apply zY | apply zT | apply zM | apply zN | apply zO | refine chk_ok (by kernel_rfl) ?_)
    | ((with_reducible first | apply zP | apply zQ | apply zR | apply zL) <;> intro h <;> try (exfalso; first | omega | exact h rfl | (revert h; decide) | (cases h; done)))
    | ((with_reducible show False); omega)
    | ((first | (with_reducible first | apply zW | apply zV | apply zU | apply zS | apply zX | show VX _ _ _ _ _ _ _ | show vstep _ _ _ _ _ | show vskip _ _ _ | show withV _ _) | ((with_reducible show endA _ _ _ _ _ _ _); simp -implicitDefEqProofs only [endA]) | (with_reducible first | refine zB default (by first | omega | (simp only [LN]; omega)) (by first | omega | (simp only [LN]; omega)) ?_ | refine zC default (by first | omega | (simp only [LN]; omega)) ?_ | refine And.intro (by first | decide | omega | assumption | (simp only [LN]; omega)) ?_) | (with_reducible first | apply zG | apply zH | apply zI | apply hidePI_own) | ((with_reducible apply zJ); (first | exact kth | exact klf | fail)) | ((with_reducible show pickE _ _ _); first | refine zA _ ⟨by omega, by rfl⟩ ?_ | refine zA _ (by rfl) ?_) | fail); try simp -dsimp -implicitDefEqProofs (maxSteps := 1000000) (disch := first | omega | (simp only [LN]; omega)) only [go_sem])
    | fail)
   have hops : (opsL l).map eOp = PV.agg [.v (.bool false), .v (.int .u64 10), .v (.int .u64 3)] :: PV.agg [.v (.bool true), .v (.int .u64 20), .v (.int .u64 0)] :: List.map eOp (List.take (min (l.length : Int) 16).toNat l) := by
    rw [show (min (l.length : Int) 16).toNat = min l.length 16 by omega]; rfl
   have hopl : (opsL l).length = 2 + (min (l.length : Int) 16).toNat := by rw [← List.length_map (f := eOp), hops]; simp; omega
   have hopn := opsL_len l
   have hopr := opsL_rng hR
   have hopi : ((opsL l).length : Int) = 2 + ((min (l.length : Int) 16).toNat : Int) := by rw [hopl]; push_cast; rfl
   have hnow : (entN (vw ws0 a) [0]).map eWr = [PV.agg [.v (.int .u64 20), .v (.int .u64 1)]] := by rw [E0]; rfl
   refine r_loop (α := Nat × Dv × (JT) × List Int × List Nat × Nat) (fun y => ⟨215, [(4, some (.loc 28 0)), (5, some (.loc 0 0)), (7, some (.loc 29 0)), (14, some (.loc 30 0)), (15, some (.loc 31 0)), (104, some (.p (.view 3 ((opsL l).map eOp)))), (105, some (.p (.v (.int .i64 (opsL l).length)))), (106, some (.p (.v (.int .i64 y.1))))],
     [some (deO y.2.1 1 2 3 4), some (peO y.2.1), some (cuO y.2.1), some (liO y.2.1 y.2.2.1 12), some (thO y.2.1 0 0 20), some (thO y.2.1 1 0 20), some (thO y.2.1 2 0 20), some (thO y.2.1 3 0 20), some (thO y.2.1 4 0 20), some (thO y.2.1 5 0 20), some (thO y.2.1 6 0 20), some (thO y.2.1 7 0 20), some (hiO y.2.1 y.2.2.1 0), some (hiO y.2.1 y.2.2.1 1), some (hiO y.2.1 y.2.2.1 2), some (hiO y.2.1 y.2.2.1 3), some (hiO y.2.1 y.2.2.1 4), some (hiO y.2.1 y.2.2.1 5), some (hiO y.2.1 y.2.2.1 6), some (hiO y.2.1 y.2.2.1 7), some (noO y.2.1 0), some (noO y.2.1 1), some (noO y.2.1 2), some (noO y.2.1 3), some (noO y.2.1 4), some (noO y.2.1 5), some (noO y.2.1 6), some (noO y.2.1 7), some (.var [.p (.v (.bool false))]), some (.var [.p (eP a)]), some (.var [.ifc 43 (.loc 4 0), .p (eP a)]), some (.var [.p (.view 2 ((entN (vw y.2.2.2.1 a) y.2.2.2.2.1).map eWr))])]⟩)
    (fun y => y.1 ≤ (opsL l).length ∧ Rest y.2.1 y.2.2.1 (1000 + 100 * y.1) a y.2.2.2.1 y.2.2.2.2.1 y.2.2.2.2.2) (fun y => (opsL l).length - y.1) (0, A1, J1, ws0, [0], 0) ⟨Nat.zero_le _, ⟨I1.le (by
     have : (cpN (lnL a) 28).length < 28 := lnL_cp a
     unfold stP; simp [wsI_len]; omega), P0, L0, N0⟩⟩ ?_ ?_
   ·refine wk_auto ?_
    simp -dsimp -implicitDefEqProofs (maxSteps := 1000000) (disch := first | omega | (simp only [LN, hops, hopi, hnow]; omega)) only [go_sem, hops, hopi, hnow]
    all_goals first | omega
   ·rintro ⟨i, A, J, ws, sl, c⟩ ⟨hi, hrest⟩
    simp only at hi hrest
    clear hops hopl hopi hnow I1 P0 L0 N0 E0 kth klf R1 herr
    generalize hopsl : opsL l = ops at *
    have w3 : IntKind.i64.wrap ((i : Int) + 1) = ((i + 1 : Nat) : Int) := by rw [IntKind.wrap_i64]; push_cast; omega
    by_cases hi2 : i < ops.length
    ·have hm : ops.getD i default ∈ ops := by rw [List.getD_eq_getElem?_getD, List.getElem?_eq_getElem hi2]; exact List.getElem_mem hi2
     obtain ⟨hk, hv⟩ := hopr _ hm
     generalize hoo : ops.getD i default = o at *
     obtain ⟨del, key, v⟩ := o
     simp only at hk hv
     have hsl := hrest.nw.so.2.2
     have hnl : (entN (vw ws a) sl).length ≤ 12 := by rw [entN, List.length_map]; exact hsl
     obtain ⟨prP, eP', kput, hput⟩ := kPutE hrest ha hk hv
     obtain ⟨prD, eD, kdel, hdel⟩ := kDelE (key := key) hrest ha
     have kdo := kDo (entN (vw ws a) sl) (by omega) del key v
     generalize hnow : entN (vw ws a) sl = now at *
     repeat' ((fail_if_success (with_reducible show awp _ _ (Code.seq (Code.seq (Code.region 22 _ _) (Code.cond _ _ _)) _) _ _)); first
      | (with_reducible first | apply zY | apply zT | apply zM | apply zN | apply zO | refine chk_ok (by kernel_rfl) ?_)
      | ((with_reducible first | apply zP | apply zQ | apply zR | apply zL) <;> intro h <;> try (exfalso; first | omega | exact h rfl | (revert h; decide) | (cases h; done)))
      | ((with_reducible show False); omega)
      | ((first | (with_reducible first | apply zW | apply zV | apply zU | apply zS | apply zX | show VX _ _ _ _ _ _ _ | show vstep _ _ _ _ _ | show vskip _ _ _ | show withV _ _) | ((with_reducible show endA _ _ _ _ _ _ _); simp -implicitDefEqProofs only [endA]) | (with_reducible first | refine zB default (by first | omega | (simp only [LN, hoo]; omega)) (by first | omega | (simp only [LN, hoo]; omega)) ?_ | refine zC default (by first | omega | (simp only [LN, hoo]; omega)) ?_ | refine And.intro (by first | decide | omega | assumption | (simp only [LN, hoo]; omega)) ?_) | ((with_reducible apply zD); (exact kdo)) | ((with_reducible apply zE); (exact kdo); rfl) | ((with_reducible apply zF); (exact kdo)) | (with_reducible first | apply zG | apply zH | apply zI | apply hidePI_own) | ((with_reducible apply zJ); (first | exact kput | fail)) | ((with_reducible show pickE _ _ _); first | refine zA _ ⟨by omega, by rfl⟩ ?_ | refine zA _ (by rfl) ?_) | fail); try simp -dsimp -implicitDefEqProofs (maxSteps := 1000000) (disch := first | omega | (simp only [LN, hoo]; omega)) only [go_sem, hoo])
      | fail)
     all_goals try omega
     refine r_cut (α := List Ins × Int) [4, 5, 7, 14, 15, 18, 26, 104, 105, 106, 181, 211] (fun y b => [(19, .p (.v (.int .i64 y.2))), (20, .p (.view 3 (y.1.map eIn))), (21, .p (.v (.int .i64 y.2)))]) (fun y b => []) (fun y => []) (fun y => (¬ y.2 = 0 ∨ (y.2 = 0 ∧ ProgOk A a now (doR now del key v) y.1))) ?I_2 ?hI_2 ?way_2 ?rest_2
     case hI_2 => intro x; (simp -dsimp -implicitDefEqProofs (maxSteps := 1000000) (disch := first | omega | (simp only [LN]; omega)) only [go_sem]) <;> exact rfl
     case way_2 =>
      cases del
      ·have hde : doE now false key = 0 := rfl
       rcases hput with ⟨rfl, h12⟩ | ⟨rfl, h12, hok⟩
       ·have h12 : 12 < (doR now false key v).length := h12
        repeat' (first
         | (with_reducible first | apply zY | apply zT | apply zM | apply zN | apply zO | refine chk_ok (by kernel_rfl) ?_)
         | ((with_reducible first | apply zP | apply zQ | apply zR | apply zL) <;> intro h <;> try (exfalso; first | omega | exact h rfl | (revert h; decide) | (cases h; done)))
         | ((with_reducible show False); omega)
         | ((first | (with_reducible first | apply zW | apply zV | apply zU | apply zS | apply zX | show VX _ _ _ _ _ _ _ | show vstep _ _ _ _ _ | show vskip _ _ _ | show withV _ _) | ((with_reducible show endA _ _ _ _ _ _ _); simp -implicitDefEqProofs only [endA]) | (with_reducible first | refine zB default (by first | omega | (simp only [LN, hde]; omega)) (by first | omega | (simp only [LN, hde]; omega)) ?_ | refine zC default (by first | omega | (simp only [LN, hde]; omega)) ?_ | refine And.intro (by first | decide | omega | assumption | (simp only [LN, hde]; omega)) ?_) | ((with_reducible show pickE _ _ _); first | refine zA _ ⟨by omega, by rfl⟩ ?_ | refine zA _ (by rfl) ?_) | fail); try simp -dsimp -implicitDefEqProofs (maxSteps := 1000000) (disch := first | omega | (simp only [LN, hde]; omega)) only [go_sem, hde])
         | fail)
        all_goals first | omega | ((refine cut_next ((prP, 4)) ?_ ?_; (exact .inl (show ¬ (4 : Int) = 0 by decide)); (simp -dsimp -implicitDefEqProofs (maxSteps := 1000000) (disch := first | omega | (simp only [LN, hde]; omega)) only [go_sem, hde]; try trivial)))
       ·have h12 : (doR now false key v).length ≤ 12 := h12
        repeat' (first
         | (with_reducible first | apply zY | apply zT | apply zM | apply zN | apply zO | refine chk_ok (by kernel_rfl) ?_)
         | ((with_reducible first | apply zP | apply zQ | apply zR | apply zL) <;> intro h <;> try (exfalso; first | omega | exact h rfl | (revert h; decide) | (cases h; done)))
         | ((with_reducible show False); omega)
         | ((first | (with_reducible first | apply zW | apply zV | apply zU | apply zS | apply zX | show VX _ _ _ _ _ _ _ | show vstep _ _ _ _ _ | show vskip _ _ _ | show withV _ _) | ((with_reducible show endA _ _ _ _ _ _ _); simp -implicitDefEqProofs only [endA]) | (with_reducible first | refine zB default (by first | omega | (simp only [LN, hde]; omega)) (by first | omega | (simp only [LN, hde]; omega)) ?_ | refine zC default (by first | omega | (simp only [LN, hde]; omega)) ?_ | refine And.intro (by first | decide | omega | assumption | (simp only [LN, hde]; omega)) ?_) | ((with_reducible show pickE _ _ _); first | refine zA _ ⟨by omega, by rfl⟩ ?_ | refine zA _ (by rfl) ?_) | fail); try simp -dsimp -implicitDefEqProofs (maxSteps := 1000000) (disch := first | omega | (simp only [LN, hde]; omega)) only [go_sem, hde])
         | fail)
        all_goals first | omega | ((refine cut_next ((prP, 0)) ?_ ?_; (exact .inr ⟨rfl, hok⟩); (simp -dsimp -implicitDefEqProofs (maxSteps := 1000000) (disch := first | omega | (simp only [LN, hde]; omega)) only [go_sem, hde]; try trivial)))
      ·rcases hdel with ⟨rfl, hu⟩ | ⟨rfl, hu, hok⟩
       ·have hde : doE now true key = 5 := by unfold doE; rw [hu]
        repeat' (first
         | (with_reducible first | apply zY | apply zT | apply zM | apply zN | apply zO | refine chk_ok (by kernel_rfl) ?_)
         | ((with_reducible first | apply zP | apply zQ | apply zR | apply zL) <;> intro h <;> try (exfalso; first | omega | exact h rfl | (revert h; decide) | (cases h; done)))
         | ((with_reducible show False); omega)
         | ((first | (with_reducible first | apply zW | apply zV | apply zU | apply zS | apply zX | show VX _ _ _ _ _ _ _ | show vstep _ _ _ _ _ | show vskip _ _ _ | show withV _ _) | ((with_reducible show endA _ _ _ _ _ _ _); simp -implicitDefEqProofs only [endA]) | (with_reducible first | refine zB default (by first | omega | (simp only [LN, hde]; omega)) (by first | omega | (simp only [LN, hde]; omega)) ?_ | refine zC default (by first | omega | (simp only [LN, hde]; omega)) ?_ | refine And.intro (by first | decide | omega | assumption | (simp only [LN, hde]; omega)) ?_) | (with_reducible first | apply zG | apply zH | apply zI | apply hidePI_own) | ((with_reducible apply zJ); (first | exact kdel | fail)) | ((with_reducible show pickE _ _ _); first | refine zA _ ⟨by omega, by rfl⟩ ?_ | refine zA _ (by rfl) ?_) | fail); try simp -dsimp -implicitDefEqProofs (maxSteps := 1000000) (disch := first | omega | (simp only [LN, hde]; omega)) only [go_sem, hde])
         | fail)
        all_goals first | omega | ((refine cut_next ((prD, 5)) ?_ ?_; (exact .inl (show ¬ (5 : Int) = 0 by decide)); (simp -dsimp -implicitDefEqProofs (maxSteps := 1000000) (disch := first | omega | (simp only [LN, hde]; omega)) only [go_sem, hde]; try trivial)))
       ·have hde : doE now true key = 0 := by unfold doE; rw [hu]
        have hok : ProgOk A a now (doR now true key v) prD := by unfold doR; rw [hu]; exact hok
        repeat' (first
         | (with_reducible first | apply zY | apply zT | apply zM | apply zN | apply zO | refine chk_ok (by kernel_rfl) ?_)
         | ((with_reducible first | apply zP | apply zQ | apply zR | apply zL) <;> intro h <;> try (exfalso; first | omega | exact h rfl | (revert h; decide) | (cases h; done)))
         | ((with_reducible show False); omega)
         | ((first | (with_reducible first | apply zW | apply zV | apply zU | apply zS | apply zX | show VX _ _ _ _ _ _ _ | show vstep _ _ _ _ _ | show vskip _ _ _ | show withV _ _) | ((with_reducible show endA _ _ _ _ _ _ _); simp -implicitDefEqProofs only [endA]) | (with_reducible first | refine zB default (by first | omega | (simp only [LN, hde]; omega)) (by first | omega | (simp only [LN, hde]; omega)) ?_ | refine zC default (by first | omega | (simp only [LN, hde]; omega)) ?_ | refine And.intro (by first | decide | omega | assumption | (simp only [LN, hde]; omega)) ?_) | (with_reducible first | apply zG | apply zH | apply zI | apply hidePI_own) | ((with_reducible apply zJ); (first | exact kdel | fail)) | ((with_reducible show pickE _ _ _); first | refine zA _ ⟨by omega, by rfl⟩ ?_ | refine zA _ (by rfl) ?_) | fail); try simp -dsimp -implicitDefEqProofs (maxSteps := 1000000) (disch := first | omega | (simp only [LN, hde]; omega)) only [go_sem, hde])
         | fail)
        all_goals first | omega | ((refine cut_next ((prD, 0)) ?_ ?_; (exact .inr ⟨rfl, hok⟩); (simp -dsimp -implicitDefEqProofs (maxSteps := 1000000) (disch := first | omega | (simp only [LN, hde]; omega)) only [go_sem, hde]; try trivial)))
     case rest_2 =>
      rintro ⟨pr, e⟩ hP
      simp only at hP
      clear kput kdel kdo hput hdel
      generalize doR now del key v = next at *
      rcases hP with he | ⟨rfl, hP⟩
      ·repeat' (first
        | (with_reducible first | apply zY | apply zT | apply zM | apply zN | apply zO | refine chk_ok (by kernel_rfl) ?_)
        | ((with_reducible first | apply zP | apply zQ | apply zR | apply zL) <;> intro h <;> try (exfalso; first | omega | exact h rfl | (revert h; decide) | (cases h; done)))
        | ((with_reducible show False); omega)
        | ((first | (with_reducible first | apply zW | apply zV | apply zU | apply zS | apply zX | show VX _ _ _ _ _ _ _ | show vstep _ _ _ _ _ | show vskip _ _ _ | show withV _ _) | ((with_reducible show endA _ _ _ _ _ _ _); simp -implicitDefEqProofs only [endA]) | (with_reducible first | refine zB default (by first | omega | (simp only [LN, he]; omega)) (by first | omega | (simp only [LN, he]; omega)) ?_ | refine zC default (by first | omega | (simp only [LN, he]; omega)) ?_ | refine And.intro (by first | decide | omega | assumption | (simp only [LN, he]; omega)) ?_) | ((with_reducible show pickE _ _ _); first | refine zA _ ⟨by omega, by rfl⟩ ?_ | refine zA _ (by rfl) ?_) | fail); try simp -dsimp -implicitDefEqProofs (maxSteps := 1000000) (disch := first | omega | (simp only [LN, he]; omega)) only [go_sem, he])
        | fail)
       all_goals first | omega | (refine zZ (i + 1, A, J, ws, sl, c) ⟨by show i + 1 ≤ _; omega, ⟨hrest.inv.le (by omega), hrest.ps, hrest.len, hrest.nw⟩⟩ (by show ops.length - (i + 1) < ops.length - i; omega) ?_; (simp -dsimp -implicitDefEqProofs (maxSteps := 1000000) (disch := first | omega | (simp only [LN, w3, hnow]; omega)) only [go_sem, w3, hnow]; try trivial))
      ·have hst := kStep A J pr hP.ne (by have := hP.le; omega) hP.rng
       have kth0 := dThread6 A J 0 (by omega)
       have hple := hP.le
       have hpne := hP.ne
       repeat' (first
        | (with_reducible first | apply zY | apply zT | apply zM | apply zN | apply zO | refine chk_ok (by kernel_rfl) ?_)
        | ((with_reducible first | apply zP | apply zQ | apply zR | apply zL) <;> intro h <;> try (exfalso; first | omega | exact h rfl | (revert h; decide) | (cases h; done)))
        | ((with_reducible show False); omega)
        | ((first | (with_reducible first | apply zW | apply zV | apply zU | apply zS | apply zX | show VX _ _ _ _ _ _ _ | show vstep _ _ _ _ _ | show vskip _ _ _ | show withV _ _) | ((with_reducible show endA _ _ _ _ _ _ _); simp -implicitDefEqProofs only [endA]) | (with_reducible first | refine zB default (by first | omega | (simp only [LN]; omega)) (by first | omega | (simp only [LN]; omega)) ?_ | refine zC default (by first | omega | (simp only [LN]; omega)) ?_ | refine And.intro (by first | decide | omega | assumption | (simp only [LN]; omega)) ?_) | (with_reducible first | apply zG | apply zH | apply zI | apply hidePI_own) | ((with_reducible apply zJ); (first | exact kth0 | exact hst | fail)) | ((with_reducible show pickE _ _ _); first | refine zA _ ⟨by omega, by rfl⟩ ?_ | refine zA _ (by rfl) ?_) | fail); try simp -dsimp -implicitDefEqProofs (maxSteps := 1000000) (disch := first | omega | (simp only [LN]; omega)) only [go_sem])
        | fail)
       all_goals try omega
       clear kth0 hst
       refine r_loop (α := List Ins × Dv × (JT) × Bool) (fun y => ⟨215, [(4, some (.loc 28 0)), (5, some (.loc 0 0)), (7, some (.loc 29 0)), (14, some (.loc 30 0)), (15, some (.loc 31 0)), (104, some (.p (.view 3 (ops.map eOp)))), (105, some (.p (.v (.int .i64 ops.length)))), (106, some (.p (.v (.int .i64 i)))), (18, some (.loc 32 0)), (22, some (.loc 33 0)), (23, some (.loc 34 0))],
         [some (deO y.2.1 1 2 3 4), some (peO y.2.1), some (cuO y.2.1), some (liO y.2.1 y.2.2.1 12), some (thO y.2.1 0 0 20), some (thO y.2.1 1 0 20), some (thO y.2.1 2 0 20), some (thO y.2.1 3 0 20), some (thO y.2.1 4 0 20), some (thO y.2.1 5 0 20), some (thO y.2.1 6 0 20), some (thO y.2.1 7 0 20), some (hiO y.2.1 y.2.2.1 0), some (hiO y.2.1 y.2.2.1 1), some (hiO y.2.1 y.2.2.1 2), some (hiO y.2.1 y.2.2.1 3), some (hiO y.2.1 y.2.2.1 4), some (hiO y.2.1 y.2.2.1 5), some (hiO y.2.1 y.2.2.1 6), some (hiO y.2.1 y.2.2.1 7), some (noO y.2.1 0), some (noO y.2.1 1), some (noO y.2.1 2), some (noO y.2.1 3), some (noO y.2.1 4), some (noO y.2.1 5), some (noO y.2.1 6), some (noO y.2.1 7), some (.var [.p (.v (.bool false))]), some (.var [.p (eP a)]), some (.var [.ifc 43 (.loc 4 0), .p (eP a)]), some (.var [.p (.view 2 (now.map eWr))]), some (.var [.p (.view 2 (next.map eWr))]), some (stO y.1), some (.var [.p (.v (.bool y.2.2.2))])]⟩)
        (fun y => y.1.length ≤ 8 ∧ Inv y.2.1 y.2.2.1 (1000 + 100 * i + (8 - y.1.length)) ∧ Safe a now next y.2.1 y.1 ∧ y.2.1.execs y.1 = A.execs pr ∧ (∀ x, x ∈ y.1 → RngI x) ∧ y.2.2.2 = decide (y.1.length = 0)) (fun y => y.1.length) (pr, A, J, false)
        ⟨hple, hrest.inv.le (by omega), hP.safe, rfl, hP.rng, by rw [decide_eq_false]; show ¬ pr.length = 0; omega⟩ ?_ ?_
       ·refine wk_auto ?_
        simp -dsimp -implicitDefEqProofs (maxSteps := 1000000) (disch := first | omega | (simp only [LN, hnow]; omega)) only [go_sem, hnow]
       ·rintro ⟨rest, D, JD, b⟩ ⟨hr8, hID, hsafe, hex, hrng, hb⟩
        simp only at hr8 hID hsafe hex hrng hb
        cases rest with
        | nil =>
         obtain rfl : b = true := hb
         obtain ⟨ws', sl', c', q1, q2, q3, q4⟩ := hP.fin
         have hD : D = A.execs pr := hex
         rw [← hD] at q1
         repeat' (first
          | (with_reducible first | apply zY | apply zT | apply zM | apply zN | apply zO | refine chk_ok (by kernel_rfl) ?_)
          | ((with_reducible first | apply zP | apply zQ | apply zR | apply zL) <;> intro h <;> try (exfalso; first | omega | exact h rfl | (revert h; decide) | (cases h; done)))
          | ((with_reducible show False); omega)
          | ((first | (with_reducible first | apply zW | apply zV | apply zU | apply zS | apply zX | show VX _ _ _ _ _ _ _ | show vstep _ _ _ _ _ | show vskip _ _ _ | show withV _ _) | ((with_reducible show endA _ _ _ _ _ _ _); simp -implicitDefEqProofs only [endA]) | (with_reducible first | refine zB default (by first | omega | (simp only [LN]; omega)) (by first | omega | (simp only [LN]; omega)) ?_ | refine zC default (by first | omega | (simp only [LN]; omega)) ?_ | refine And.intro (by first | decide | omega | assumption | (simp only [LN]; omega)) ?_) | ((with_reducible show pickE _ _ _); first | refine zA _ ⟨by omega, by rfl⟩ ?_ | refine zA _ (by rfl) ?_) | fail); try simp -dsimp -implicitDefEqProofs (maxSteps := 1000000) (disch := first | omega | (simp only [LN]; omega)) only [go_sem])
          | fail)
         all_goals first | omega | (refine zZ (i + 1, D, JD, ws', sl', c') ⟨by show i + 1 ≤ _; omega, ⟨hID.le (by simp only [List.length_nil]; omega), q1, q2, q3⟩⟩ (by show ops.length - (i + 1) < ops.length - i; omega) ?_; (simp -dsimp -implicitDefEqProofs (maxSteps := 1000000) (disch := first | omega | (simp only [LN, w3, q4]; omega)) only [go_sem, w3, q4]; try trivial))
        | cons y r =>
         obtain rfl : b = false := hb
         have hr8' : r.length + 1 ≤ 8 := hr8
         have kss := kStepS D JD _ hID (by omega) y r (hrng y List.mem_cons_self) (by omega)
         obtain ⟨hgood, hsafe2⟩ := hsafe
         have hex2 : (D.exec y).execs r = A.execs pr := hex
         repeat' ((fail_if_success (with_reducible show awp _ _ (Code.region 33 _ _) _ _)); first
          | (with_reducible first | apply zY | apply zT | apply zM | apply zN | apply zO | refine chk_ok (by kernel_rfl) ?_)
          | ((with_reducible first | apply zP | apply zQ | apply zR | apply zL) <;> intro h <;> try (exfalso; first | omega | exact h rfl | (revert h; decide) | (cases h; done)))
          | ((with_reducible show False); omega)
          | ((with_reducible first | refine r_gr0 [17] (by with_unfolding_all exact rfl) ?_ | refine r_gr1 [17] (by with_unfolding_all exact rfl) ?_ | refine r_gr2 [17] (by with_unfolding_all exact rfl) ?_ | refine r_gr3 [17] (by with_unfolding_all exact rfl) ?_ | refine r_gr4 [17] (by with_unfolding_all exact rfl) ?_ | refine r_gr5 [17] (by with_unfolding_all exact rfl) ?_ | refine r_gr6 [17] (by with_unfolding_all exact rfl) ?_ | refine r_gr7 [17] (by with_unfolding_all exact rfl) ?_ | refine r_gr8 [17] (by with_unfolding_all exact rfl) ?_ | refine r_gr9 [17] (by with_unfolding_all exact rfl) ?_ | refine r_gr10 [17] (by with_unfolding_all exact rfl) ?_); simp -dsimp -implicitDefEqProofs (maxSteps := 1000000) (disch := first | omega | (simp only [LN]; omega)) only [go_sem])
          | ((first | (with_reducible first | apply zW | apply zV | apply zU | apply zS | apply zX | show VX _ _ _ _ _ _ _ | show vstep _ _ _ _ _ | show vskip _ _ _ | show withV _ _) | ((with_reducible show endA _ _ _ _ _ _ _); simp -implicitDefEqProofs only [endA]) | (with_reducible first | refine zB default (by first | omega | (simp only [LN]; omega)) (by first | omega | (simp only [LN]; omega)) ?_ | refine zC default (by first | omega | (simp only [LN]; omega)) ?_ | refine And.intro (by first | decide | omega | assumption | (simp only [LN]; omega)) ?_) | ((with_reducible apply zK); (first | exact kss | fail); intro gq) | ((with_reducible show pickE _ _ _); first | refine zA _ ⟨by omega, by rfl⟩ ?_ | refine zA _ (by rfl) ?_) | fail); try simp -dsimp -implicitDefEqProofs (maxSteps := 1000000) (disch := first | omega | (simp only [LN]; omega)) only [go_sem])
          | fail)
         all_goals try omega
         obtain ⟨J', I'⟩ := gq
         clear kss hID hex
         generalize D.exec y = D' at *
         have wfD := I'.wf
         obtain ⟨E, ⟨_, slE, cE, nE, eE⟩, hE⟩ := hgood.cur
         have hE12 : E.length ≤ 12 := by rw [← eE, entN, List.length_map]; exact nE.so.2.2
         have kcl := kCLeaf D' J' (hgood.cl.rd wfD 5) a ha _ slE cE nE.nd
         rw [eE] at kcl
         have s1 := kSame E next (by omega)
         have s2 := kSame E now (by omega)
         repeat' ((fail_if_success (with_reducible show awp _ _ (Code.seq (Code.seq (Code.region 34 _ _) (Code.cond _ _ _)) _) _ _)); first
          | (with_reducible first | apply zY | apply zT | apply zM | apply zN | apply zO | refine chk_ok (by kernel_rfl) ?_)
          | ((with_reducible first | apply zP | apply zQ | apply zR | apply zL) <;> intro h <;> try (exfalso; first | omega | exact h rfl | (revert h; decide) | (cases h; done)))
          | ((with_reducible show False); omega)
          | ((first | (with_reducible first | apply zW | apply zV | apply zU | apply zS | apply zX | show VX _ _ _ _ _ _ _ | show vstep _ _ _ _ _ | show vskip _ _ _ | show withV _ _) | ((with_reducible show endA _ _ _ _ _ _ _); simp -implicitDefEqProofs only [endA]) | (with_reducible first | refine zB default (by first | omega | (simp only [LN]; omega)) (by first | omega | (simp only [LN]; omega)) ?_ | refine zC default (by first | omega | (simp only [LN]; omega)) ?_ | refine And.intro (by first | decide | omega | assumption | (simp only [LN]; omega)) ?_) | (with_reducible first | apply zG | apply zH | apply zI | apply hidePI_own) | ((with_reducible apply zJ); (first | exact kcl | fail)) | ((with_reducible show pickE _ _ _); first | refine zA _ ⟨by omega, by rfl⟩ ?_ | refine zA _ (by rfl) ?_) | fail); try simp -dsimp -implicitDefEqProofs (maxSteps := 1000000) (disch := first | omega | (simp only [LN]; omega)) only [go_sem])
          | fail)
         refine r_cut (α := Nat) [4, 5, 7, 14, 15, 18, 22, 23, 104, 105, 106] (fun u b => []) (fun u b => []) (fun u => []) (fun u => u ≤ 5) ?I_3 ?hI_3 ?way_3 ?rest_3
         case hI_3 => intro x; (simp -dsimp -implicitDefEqProofs (maxSteps := 1000000) (disch := first | omega | (simp only [LN]; omega)) only [go_sem]) <;> exact rfl
         case way_3 =>
          by_cases hn : E = next
          ·rw [decide_eq_true hn] at s1
           repeat' (first
            | (with_reducible first | apply zY | apply zT | apply zM | apply zN | apply zO | refine chk_ok (by kernel_rfl) ?_)
            | ((with_reducible first | apply zP | apply zQ | apply zR | apply zL) <;> intro h <;> try (exfalso; first | omega | exact h rfl | (revert h; decide) | (cases h; done)))
            | ((with_reducible show False); omega)
            | ((first | (with_reducible first | apply zW | apply zV | apply zU | apply zS | apply zX | show VX _ _ _ _ _ _ _ | show vstep _ _ _ _ _ | show vskip _ _ _ | show withV _ _) | ((with_reducible show endA _ _ _ _ _ _ _); simp -implicitDefEqProofs only [endA]) | (with_reducible first | refine zB default (by first | omega | (simp only [LN]; omega)) (by first | omega | (simp only [LN]; omega)) ?_ | refine zC default (by first | omega | (simp only [LN]; omega)) ?_ | refine And.intro (by first | decide | omega | assumption | (simp only [LN]; omega)) ?_) | ((with_reducible apply zD); (exact s1)) | ((with_reducible apply zE); (exact s1); rfl) | ((with_reducible apply zF); (exact s1)) | ((with_reducible show pickE _ _ _); first | refine zA _ ⟨by omega, by rfl⟩ ?_ | refine zA _ (by rfl) ?_) | fail); try simp -dsimp -implicitDefEqProofs (maxSteps := 1000000) (disch := first | omega | (simp only [LN]; omega)) only [go_sem])
            | fail)
           all_goals first | omega | ((refine cut_next (0) ?_ ?_; (exact Nat.zero_le _); (simp -dsimp -implicitDefEqProofs (maxSteps := 1000000) (disch := first | omega | (simp only [LN]; omega)) only [go_sem]; try trivial)))
          ·obtain ⟨hl, hnw⟩ := hE.resolve_left hn
           rw [decide_eq_false hn] at s1
           rw [decide_eq_true hnw] at s2
           have hb : decide (r.length = 0) = false := decide_eq_false fun e => hl (List.length_eq_zero_iff.1 e)
           repeat' (first
            | (with_reducible first | apply zY | apply zT | apply zM | apply zN | apply zO | refine chk_ok (by kernel_rfl) ?_)
            | ((with_reducible first | apply zP | apply zQ | apply zR | apply zL) <;> intro h <;> try (exfalso; first | omega | exact h rfl | (revert h; decide) | (cases h; done)))
            | ((with_reducible show False); omega)
            | ((first | (with_reducible first | apply zW | apply zV | apply zU | apply zS | apply zX | show VX _ _ _ _ _ _ _ | show vstep _ _ _ _ _ | show vskip _ _ _ | show withV _ _) | ((with_reducible show endA _ _ _ _ _ _ _); simp -implicitDefEqProofs only [endA]) | (with_reducible first | refine zB default (by first | omega | (simp only [LN, hb]; omega)) (by first | omega | (simp only [LN, hb]; omega)) ?_ | refine zC default (by first | omega | (simp only [LN, hb]; omega)) ?_ | refine And.intro (by first | decide | omega | assumption | (simp only [LN, hb]; omega)) ?_) | ((with_reducible apply zD); (first | exact s1 | exact s2 | fail)) | ((with_reducible apply zE); (first | exact s1 | exact s2 | fail); rfl) | ((with_reducible apply zF); (first | exact s1 | exact s2 | fail)) | ((with_reducible show pickE _ _ _); first | refine zA _ ⟨by omega, by rfl⟩ ?_ | refine zA _ (by rfl) ?_) | fail); try simp -dsimp -implicitDefEqProofs (maxSteps := 1000000) (disch := first | omega | (simp only [LN, hb]; omega)) only [go_sem, hb])
            | fail)
           all_goals first | omega | ((refine cut_next (0) ?_ ?_; (exact Nat.zero_le _); (simp -dsimp -implicitDefEqProofs (maxSteps := 1000000) (disch := first | omega | (simp only [LN, hb]; omega)) only [go_sem, hb]; try trivial)))
         case rest_3 =>
          intro u hu
          clear kcl s1 s2
          have kac := kAllC D' J'
          repeat' (first
           | (with_reducible first | apply zY | apply zT | apply zM | apply zN | apply zO | refine chk_ok (by kernel_rfl) ?_)
           | ((with_reducible first | apply zP | apply zQ | apply zR | apply zL) <;> intro h <;> try (exfalso; first | omega | exact h rfl | (revert h; decide) | (cases h; done)))
           | ((with_reducible show False); omega)
           | ((first | (with_reducible first | apply zW | apply zV | apply zU | apply zS | apply zX | show VX _ _ _ _ _ _ _ | show vstep _ _ _ _ _ | show vskip _ _ _ | show withV _ _) | ((with_reducible show endA _ _ _ _ _ _ _); simp -implicitDefEqProofs only [endA]) | (with_reducible first | refine zB default (by first | omega | (simp only [LN]; omega)) (by first | omega | (simp only [LN]; omega)) ?_ | refine zC default (by first | omega | (simp only [LN]; omega)) ?_ | refine And.intro (by first | decide | omega | assumption | (simp only [LN]; omega)) ?_) | (with_reducible first | apply zG | apply zH | apply zI | apply hidePI_own) | ((with_reducible apply zJ); (first | exact kac | fail)) | ((with_reducible show pickE _ _ _); first | refine zA _ ⟨by omega, by rfl⟩ ?_ | refine zA _ (by rfl) ?_) | fail); try simp -dsimp -implicitDefEqProofs (maxSteps := 1000000) (disch := first | omega | (simp only [LN]; omega)) only [go_sem])
           | fail)
          all_goals try omega
          refine r_weak (s' := ⟨215, [(4, some (.loc 28 0)), (5, some (.loc 0 0)), (7, some (.loc 29 0)), (14, some (.loc 30 0)), (15, some (.loc 31 0)), (104, some (.p (.view 3 (ops.map eOp)))), (105, some (.p (.v (.int .i64 ops.length)))), (106, some (.p (.v (.int .i64 i)))), (18, some (.loc 32 0)), (22, some (.loc 33 0)), (23, some (.loc 34 0)), (180, some (.fn 43 [.loc 35 0, .loc 36 0]))],
           [some (deO D' 1 2 3 4), some (peO D'), some (cuO D'), some (liO D' J' 12), some (thO D' 0 0 20), some (thO D' 1 0 20), some (thO D' 2 0 20), some (thO D' 3 0 20), some (thO D' 4 0 20), some (thO D' 5 0 20), some (thO D' 6 0 20), some (thO D' 7 0 20), some (hiO D' J' 0), some (hiO D' J' 1), some (hiO D' J' 2), some (hiO D' J' 3), some (hiO D' J' 4), some (hiO D' J' 5), some (hiO D' J' 6), some (hiO D' J' 7), some (noO D' 0), some (noO D' 1), some (noO D' 2), some (noO D' 3), some (noO D' 4), some (noO D' 5), some (noO D' 6), some (noO D' 7), some (.var [.p (.v (.bool false))]), some (.var [.p (eP a)]), some (.var [.ifc 43 (.loc 4 0), .p (eP a)]), some (.var [.p (.view 2 (now.map eWr))]), some (.var [.p (.view 2 (next.map eWr))]), some (stO r), some (.var [.p (.v (.bool (decide (r.length = 0))))]), some (.var [.loc 0 0]), some (.var [.p (.v (.int .i64 64))])]⟩) (wk_auto ?_) ?_
          ·simp -dsimp -implicitDefEqProofs (maxSteps := 1000000) (disch := first | omega | (simp only [LN]; omega)) only [go_sem]
          obtain ⟨d, H, pk⟩ := pack I' (by omega) hgood ha
          have hdl := pk.len
          have hH8 := pk.h8
          have hrep : List.map eNd (List.replicate H.length 0) = List.replicate H.length (PV.v (.int .i64 0)) := by rw [List.map_replicate]; rfl
          have kex := pk.ex
          clear kac
          refine r_rangeH 43 (fnI := Tryz.f43) 36 [.loc 35 0, .loc 36 0] [4, 7, 15, 18, 23] [4, 7, 15, 18, 23] [.loc 28 0, .loc 29 0, .loc 31 0, .loc 32 0, .loc 34 0] 37 ?_ rfl rfl rfl rfl rfl rfl rfl rfl rfl fun lp hd hps has hbo => ?_
          ·simp -dsimp -implicitDefEqProofs (maxSteps := 1000000) (disch := first | omega | (simp only [LN]; omega)) only [go_sem]
          ·simp -dsimp -implicitDefEqProofs (maxSteps := 1000000) (disch := first | omega | (simp only [LN]; omega)) only [go_sem]
           repeat' (first
            | (with_reducible first | apply zY | apply zT | apply zM | apply zN | apply zO | refine chk_ok (by kernel_rfl) ?_)
            | ((with_reducible first | apply zP | apply zQ | apply zR | apply zL) <;> intro h <;> try (exfalso; first | omega | exact h rfl | (revert h; decide) | (cases h; done)))
            | ((with_reducible show False); omega)
            | ((first | (with_reducible first | apply zW | apply zV | apply zU | apply zS | apply zX | show VX _ _ _ _ _ _ _ | show vstep _ _ _ _ _ | show vskip _ _ _ | show withV _ _) | ((with_reducible show endA _ _ _ _ _ _ _); simp -implicitDefEqProofs only [endA]) | (with_reducible first | refine zB default (by first | omega | (simp only [LN, hdl]; omega)) (by first | omega | (simp only [LN, hdl]; omega)) ?_ | refine zC default (by first | omega | (simp only [LN, hdl]; omega)) ?_ | refine And.intro (by first | decide | omega | assumption | (simp only [LN, hdl]; omega)) ?_) | (with_reducible first | apply zG | apply zH | apply zI | apply hidePI_own) | ((with_reducible apply zJ); (first | exact kex | fail)) | ((with_reducible show pickE _ _ _); first | refine zA _ ⟨by omega, by rfl⟩ ?_ | refine zA _ (by rfl) ?_) | fail); try simp -dsimp -implicitDefEqProofs (maxSteps := 1000000) (disch := first | omega | (simp only [LN, hdl]; omega)) only [go_sem, hdl])
            | fail)
           all_goals try omega
           refine r_loop (α := Nat × List Nat) (fun y => ⟨36, [(0, some (.p (.v (.func (.yield lp) #[] #[])))), (2, some (.loc 36 0)), (4, some (.loc 38 0)), (5, some (.sl 39 1 0 H.length)), (6, some (.p (.v (.int .i64 y.1))))],
             [some (deO D' 1 2 3 4), some (peO D'), some (cuO D'), some (liO D' J' 12), some (thO D' 0 0 20), some (thO D' 1 0 20), some (thO D' 2 0 20), some (thO D' 3 0 20), some (thO D' 4 0 20), some (thO D' 5 0 20), some (thO D' 6 0 20), some (thO D' 7 0 20), some (hiO D' J' 0), some (hiO D' J' 1), some (hiO D' J' 2), some (hiO D' J' 3), some (hiO D' J' 4), some (hiO D' J' 5), some (hiO D' J' 6), some (hiO D' J' 7), some (noO D' 0), some (noO D' 1), some (noO D' 2), some (noO D' 3), some (noO D' 4), some (noO D' 5), some (noO D' 6), some (noO D' 7), some (.var [.p (.v (.bool false))]), some (.var [.p (eP a)]), some (.var [.ifc 43 (.loc 4 0), .p (eP a)]), some (.var [.p (.view 2 (now.map eWr))]), some (.var [.p (.view 2 (next.map eWr))]), some (stO r), some (.var [.p (.v (.bool (decide (r.length = 0))))]), some (.var [.loc 0 0]), some (.var [.p (.v (.int .i64 64))]), some (.lp lp (recO hd .ready none) 215 [4, 7, 15, 18, 23] [.loc 28 0, .loc 29 0, .loc 31 0, .loc 32 0, .loc 34 0]), some (.var [.p (.view 1 ((byB D'.per 512).map eB)), .p (.view 1 (d.map eNd)), .p (.view 1 (H.map eHs))]), some (.arr 1 (y.2.map eNd))]⟩)
            (fun y => y.1 ≤ 64 ∧ DgOk H y.2) (fun y => 64 - y.1) (0, List.replicate H.length 0) ⟨Nat.zero_le _, pk.k0⟩ ?_ ?_
           ·refine wk_auto ?_
            simp -dsimp -implicitDefEqProofs (maxSteps := 1000000) (disch := first | omega | (simp only [LN, hrep]; omega)) only [go_sem, hrep]
            all_goals first | omega
           ·rintro ⟨m, ks⟩ ⟨hm64, hks⟩
            simp only at hm64 hks
            have hksl := hks.1
            have w4 : IntKind.i64.wrap ((m : Int) + 1) = ((m + 1 : Nat) : Int) := by rw [IntKind.wrap_i64]; push_cast; omega
            by_cases hm2 : m < 64
            ·have kim := pk.im ks hks
             have kdv := pk.dv ks
             obtain ⟨E2, hE2, hE2c, kcl⟩ := pk.cl ks hks
             have knx := pk.nx ks hks
             have s1 := kSame E2 next (by omega)
             have s2 := kSame E2 now (by omega)
             generalize crB D' ks = img at *
             generalize crD D' ks = C at *
             repeat' ((fail_if_success (with_reducible show awp _ _ (Code.region 6 _ _) _ _)); first
              | (with_reducible first | apply zY | apply zT | apply zM | apply zN | apply zO | refine chk_ok (by kernel_rfl) ?_)
              | ((with_reducible first | apply zP | apply zQ | apply zR | apply zL) <;> intro h <;> try (exfalso; first | omega | exact h rfl | (revert h; decide) | (cases h; done)))
              | ((with_reducible show False); omega)
              | ((first | (with_reducible first | apply zW | apply zV | apply zU | apply zS | apply zX | show VX _ _ _ _ _ _ _ | show vstep _ _ _ _ _ | show vskip _ _ _ | show withV _ _) | ((with_reducible show endA _ _ _ _ _ _ _); simp -implicitDefEqProofs only [endA]) | (with_reducible first | refine zB default (by first | omega | (simp only [LN]; omega)) (by first | omega | (simp only [LN]; omega)) ?_ | refine zC default (by first | omega | (simp only [LN]; omega)) ?_ | refine And.intro (by first | decide | omega | assumption | (simp only [LN]; omega)) ?_) | ((with_reducible show pickE _ _ _); first | refine zA _ ⟨by omega, by rfl⟩ ?_ | refine zA _ (by rfl) ?_) | fail); try simp -dsimp -implicitDefEqProofs (maxSteps := 1000000) (disch := first | omega | (simp only [LN]; omega)) only [go_sem])
              | fail)
             all_goals try omega
             refine r_yield4 37 lp 215 hd [4, 7, 15, 18, 23] [.loc 28 0, .loc 29 0, .loc 31 0, .loc 32 0, .loc 34 0] ?_
             simp -dsimp -implicitDefEqProofs (maxSteps := 1000000) (disch := first | omega | (simp only [LN]; omega)) only [go_sem]
             repeat' (first
              | (with_reducible first | apply zY | apply zT | apply zM | apply zN | apply zO | refine chk_ok (by kernel_rfl) ?_)
              | ((with_reducible first | apply zP | apply zQ | apply zR | apply zL) <;> intro h <;> try (exfalso; first | omega | exact h rfl | (revert h; decide) | (cases h; done)))
              | ((with_reducible show False); omega)
              | ((first | (with_reducible first | apply zW | apply zV | apply zU | apply zS | apply zX | show VX _ _ _ _ _ _ _ | show vstep _ _ _ _ _ | show vskip _ _ _ | show withV _ _) | ((with_reducible show endA _ _ _ _ _ _ _); simp -implicitDefEqProofs only [endA]) | (with_reducible first | refine zB default (by first | omega | (simp only [LN, hksl]; omega)) (by first | omega | (simp only [LN, hksl]; omega)) ?_ | refine zC default (by first | omega | (simp only [LN, hksl]; omega)) ?_ | refine And.intro (by first | decide | omega | assumption | (simp only [LN, hksl]; omega)) ?_) | ((with_reducible apply zD); (exact kim)) | ((with_reducible apply zE); (exact kim); rfl) | ((with_reducible apply zF); (exact kim)) | ((with_reducible show pickE _ _ _); first | refine zA _ ⟨by omega, by rfl⟩ ?_ | refine zA _ (by rfl) ?_) | fail); try simp -dsimp -implicitDefEqProofs (maxSteps := 1000000) (disch := first | omega | (simp only [LN, hksl]; omega)) only [go_sem, hksl])
              | fail)
             refine yield_go hps has hbo rfl rfl rfl rfl rfl rfl _ rfl rfl ?_
             simp -dsimp -implicitDefEqProofs (maxSteps := 1000000) (disch := first | omega | (simp only [LN]; omega)) only [go_sem]
             repeat' (first
              | (with_reducible first | apply zY | apply zT | apply zM | apply zN | apply zO | refine chk_ok (by kernel_rfl) ?_)
              | ((with_reducible first | apply zP | apply zQ | apply zR | apply zL) <;> intro h <;> try (exfalso; first | omega | exact h rfl | (revert h; decide) | (cases h; done)))
              | ((with_reducible show False); omega)
              | ((first | (with_reducible first | apply zW | apply zV | apply zU | apply zS | apply zX | show VX _ _ _ _ _ _ _ | show vstep _ _ _ _ _ | show vskip _ _ _ | show withV _ _) | ((with_reducible show endA _ _ _ _ _ _ _); simp -implicitDefEqProofs only [endA]) | (with_reducible first | refine zB default (by first | omega | (simp only [LN]; omega)) (by first | omega | (simp only [LN]; omega)) ?_ | refine zC default (by first | omega | (simp only [LN]; omega)) ?_ | refine And.intro (by first | decide | omega | assumption | (simp only [LN]; omega)) ?_) | ((with_reducible show pickE _ _ _); first | refine zA _ ⟨by omega, by rfl⟩ ?_ | refine zA _ (by rfl) ?_) | fail); try simp -dsimp -implicitDefEqProofs (maxSteps := 1000000) (disch := first | omega | (simp only [LN]; omega)) only [go_sem])
              | fail)
             refine round1_go hbo (by rfl) ?_
             simp -dsimp -implicitDefEqProofs (maxSteps := 1000000) (disch := first | omega | (simp only [LN]; omega)) only [go_sem]
             by_cases hn2 : E2 = next
             ·rw [decide_eq_true hn2] at s1
              repeat' (first
               | (with_reducible first | apply zY | apply zT | apply zM | apply zN | apply zO | refine chk_ok (by kernel_rfl) ?_)
               | ((with_reducible first | apply zP | apply zQ | apply zR | apply zL) <;> intro h <;> try (exfalso; first | omega | exact h rfl | (revert h; decide) | (cases h; done)))
               | ((with_reducible show False); omega)
               | ((first | (with_reducible first | apply zW | apply zV | apply zU | apply zS | apply zX | show VX _ _ _ _ _ _ _ | show vstep _ _ _ _ _ | show vskip _ _ _ | show withV _ _) | ((with_reducible show endA _ _ _ _ _ _ _); simp -implicitDefEqProofs only [endA]) | (with_reducible first | refine zB default (by first | omega | (simp only [LN]; omega)) (by first | omega | (simp only [LN]; omega)) ?_ | refine zC default (by first | omega | (simp only [LN]; omega)) ?_ | refine And.intro (by first | decide | omega | assumption | (simp only [LN]; omega)) ?_) | ((with_reducible apply zD); (exact s1)) | ((with_reducible apply zE); (exact s1); rfl) | ((with_reducible apply zF); (exact s1)) | (with_reducible first | apply zG | apply zH | apply zI | apply hidePI_own) | ((with_reducible apply zJ); (first | exact kdv | exact kcl | fail)) | ((with_reducible show pickE _ _ _); first | refine zA _ ⟨by omega, by rfl⟩ ?_ | refine zA _ (by rfl) ?_) | fail); try simp -dsimp -implicitDefEqProofs (maxSteps := 1000000) (disch := first | omega | (simp only [LN]; omega)) only [go_sem])
               | fail)
              refine round2_go (by rfl) ?_
              simp -dsimp -implicitDefEqProofs (maxSteps := 1000000) (disch := first | omega | (simp only [LN]; omega)) only [go_sem]
              cases hnb : (nxR H ks H.length).2
              ·rw [hnb] at knx
               repeat' (first
                | (with_reducible first | apply zY | apply zT | apply zM | apply zN | apply zO | refine chk_ok (by kernel_rfl) ?_)
                | ((with_reducible first | apply zP | apply zQ | apply zR | apply zL) <;> intro h <;> try (exfalso; first | omega | exact h rfl | (revert h; decide) | (cases h; done)))
                | ((with_reducible show False); omega)
                | ((first | (with_reducible first | apply zW | apply zV | apply zU | apply zS | apply zX | show VX _ _ _ _ _ _ _ | show vstep _ _ _ _ _ | show vskip _ _ _ | show withV _ _) | ((with_reducible show endA _ _ _ _ _ _ _); simp -implicitDefEqProofs only [endA]) | (with_reducible first | refine zB default (by first | omega | (simp only [LN]; omega)) (by first | omega | (simp only [LN]; omega)) ?_ | refine zC default (by first | omega | (simp only [LN]; omega)) ?_ | refine And.intro (by first | decide | omega | assumption | (simp only [LN]; omega)) ?_) | (with_reducible first | apply zG | apply zH | apply zI | apply hidePI_own) | ((with_reducible apply zJ); (first | exact knx | fail)) | ((with_reducible show pickE _ _ _); first | refine zA _ ⟨by omega, by rfl⟩ ?_ | refine zA _ (by rfl) ?_) | fail); try simp -dsimp -implicitDefEqProofs (maxSteps := 1000000) (disch := first | omega | (simp only [LN]; omega)) only [go_sem])
                | fail)
               all_goals try omega
               refine range_end (.inr rfl) rfl ?_
               simp -dsimp -implicitDefEqProofs (maxSteps := 1000000) (disch := first | omega | (simp only [LN]; omega)) only [go_sem]
               repeat' (first
                | (with_reducible first | apply zY | apply zT | apply zM | apply zN | apply zO | refine chk_ok (by kernel_rfl) ?_)
                | ((with_reducible first | apply zP | apply zQ | apply zR | apply zL) <;> intro h <;> try (exfalso; first | omega | exact h rfl | (revert h; decide) | (cases h; done)))
                | ((with_reducible show False); omega)
                | ((first | (with_reducible first | apply zW | apply zV | apply zU | apply zS | apply zX | show VX _ _ _ _ _ _ _ | show vstep _ _ _ _ _ | show vskip _ _ _ | show withV _ _) | ((with_reducible show endA _ _ _ _ _ _ _); simp -implicitDefEqProofs only [endA]) | (with_reducible first | refine zB default (by first | omega | (simp only [LN]; omega)) (by first | omega | (simp only [LN]; omega)) ?_ | refine zC default (by first | omega | (simp only [LN]; omega)) ?_ | refine And.intro (by first | decide | omega | assumption | (simp only [LN]; omega)) ?_) | ((with_reducible show pickE _ _ _); first | refine zA _ ⟨by omega, by rfl⟩ ?_ | refine zA _ (by rfl) ?_) | fail); try simp -dsimp -implicitDefEqProofs (maxSteps := 1000000) (disch := first | omega | (simp only [LN]; omega)) only [go_sem])
                | fail)
               all_goals first | omega | (refine zZ (r, D', J', decide (r.length = 0)) ⟨by show r.length ≤ 8; omega, I'.le (by show _ ≤ 1000 + 100 * i + (8 - r.length); simp only [List.length_cons]; omega), hsafe2, hex2, fun x hx => hrng x (List.mem_cons_of_mem _ hx), rfl⟩ (Nat.lt_succ_self _) ?_; (simp -dsimp -implicitDefEqProofs (maxSteps := 1000000) (disch := first | omega | (simp only [LN]; omega)) only [go_sem]; try trivial))
              ·rw [hnb] at knx
               repeat' (first
                | (with_reducible first | apply zY | apply zT | apply zM | apply zN | apply zO | refine chk_ok (by kernel_rfl) ?_)
                | ((with_reducible first | apply zP | apply zQ | apply zR | apply zL) <;> intro h <;> try (exfalso; first | omega | exact h rfl | (revert h; decide) | (cases h; done)))
                | ((with_reducible show False); omega)
                | ((first | (with_reducible first | apply zW | apply zV | apply zU | apply zS | apply zX | show VX _ _ _ _ _ _ _ | show vstep _ _ _ _ _ | show vskip _ _ _ | show withV _ _) | ((with_reducible show endA _ _ _ _ _ _ _); simp -implicitDefEqProofs only [endA]) | (with_reducible first | refine zB default (by first | omega | (simp only [LN]; omega)) (by first | omega | (simp only [LN]; omega)) ?_ | refine zC default (by first | omega | (simp only [LN]; omega)) ?_ | refine And.intro (by first | decide | omega | assumption | (simp only [LN]; omega)) ?_) | (with_reducible first | apply zG | apply zH | apply zI | apply hidePI_own) | ((with_reducible apply zJ); (first | exact knx | fail)) | ((with_reducible show pickE _ _ _); first | refine zA _ ⟨by omega, by rfl⟩ ?_ | refine zA _ (by rfl) ?_) | fail); try simp -dsimp -implicitDefEqProofs (maxSteps := 1000000) (disch := first | omega | (simp only [LN]; omega)) only [go_sem])
                | fail)
               all_goals first | omega | (refine zZ (m + 1, (nxR H ks H.length).1) ⟨by show m + 1 ≤ 64; omega, pk.ok ks hks⟩ (by show 64 - (m + 1) < 64 - m; omega) ?_; (simp -dsimp -implicitDefEqProofs (maxSteps := 1000000) (disch := first | omega | (simp only [LN, w4]; omega)) only [go_sem, w4]; try trivial))
             ·obtain ⟨hl2, hnw2⟩ := hE2c.resolve_left hn2
              rw [decide_eq_false hn2] at s1
              rw [decide_eq_true hnw2] at s2
              have hbf : decide (r.length = 0) = false := decide_eq_false fun e => hl2 (List.length_eq_zero_iff.1 e)
              repeat' (first
               | (with_reducible first | apply zY | apply zT | apply zM | apply zN | apply zO | refine chk_ok (by kernel_rfl) ?_)
               | ((with_reducible first | apply zP | apply zQ | apply zR | apply zL) <;> intro h <;> try (exfalso; first | omega | exact h rfl | (revert h; decide) | (cases h; done)))
               | ((with_reducible show False); omega)
               | ((first | (with_reducible first | apply zW | apply zV | apply zU | apply zS | apply zX | show VX _ _ _ _ _ _ _ | show vstep _ _ _ _ _ | show vskip _ _ _ | show withV _ _) | ((with_reducible show endA _ _ _ _ _ _ _); simp -implicitDefEqProofs only [endA]) | (with_reducible first | refine zB default (by first | omega | (simp only [LN, hbf]; omega)) (by first | omega | (simp only [LN, hbf]; omega)) ?_ | refine zC default (by first | omega | (simp only [LN, hbf]; omega)) ?_ | refine And.intro (by first | decide | omega | assumption | (simp only [LN, hbf]; omega)) ?_) | ((with_reducible apply zD); (first | exact s1 | exact s2 | fail)) | ((with_reducible apply zE); (first | exact s1 | exact s2 | fail); rfl) | ((with_reducible apply zF); (first | exact s1 | exact s2 | fail)) | (with_reducible first | apply zG | apply zH | apply zI | apply hidePI_own) | ((with_reducible apply zJ); (first | exact kdv | exact kcl | fail)) | ((with_reducible show pickE _ _ _); first | refine zA _ ⟨by omega, by rfl⟩ ?_ | refine zA _ (by rfl) ?_) | fail); try simp -dsimp -implicitDefEqProofs (maxSteps := 1000000) (disch := first | omega | (simp only [LN, hbf]; omega)) only [go_sem, hbf])
               | fail)
              refine round2_go (by rfl) ?_
              simp -dsimp -implicitDefEqProofs (maxSteps := 1000000) (disch := first | omega | (simp only [LN]; omega)) only [go_sem]
              cases hnb : (nxR H ks H.length).2
              ·rw [hnb] at knx
               repeat' (first
                | (with_reducible first | apply zY | apply zT | apply zM | apply zN | apply zO | refine chk_ok (by kernel_rfl) ?_)
                | ((with_reducible first | apply zP | apply zQ | apply zR | apply zL) <;> intro h <;> try (exfalso; first | omega | exact h rfl | (revert h; decide) | (cases h; done)))
                | ((with_reducible show False); omega)
                | ((first | (with_reducible first | apply zW | apply zV | apply zU | apply zS | apply zX | show VX _ _ _ _ _ _ _ | show vstep _ _ _ _ _ | show vskip _ _ _ | show withV _ _) | ((with_reducible show endA _ _ _ _ _ _ _); simp -implicitDefEqProofs only [endA]) | (with_reducible first | refine zB default (by first | omega | (simp only [LN]; omega)) (by first | omega | (simp only [LN]; omega)) ?_ | refine zC default (by first | omega | (simp only [LN]; omega)) ?_ | refine And.intro (by first | decide | omega | assumption | (simp only [LN]; omega)) ?_) | (with_reducible first | apply zG | apply zH | apply zI | apply hidePI_own) | ((with_reducible apply zJ); (first | exact knx | fail)) | ((with_reducible show pickE _ _ _); first | refine zA _ ⟨by omega, by rfl⟩ ?_ | refine zA _ (by rfl) ?_) | fail); try simp -dsimp -implicitDefEqProofs (maxSteps := 1000000) (disch := first | omega | (simp only [LN]; omega)) only [go_sem])
                | fail)
               all_goals try omega
               refine range_end (.inr rfl) rfl ?_
               simp -dsimp -implicitDefEqProofs (maxSteps := 1000000) (disch := first | omega | (simp only [LN]; omega)) only [go_sem]
               repeat' (first
                | (with_reducible first | apply zY | apply zT | apply zM | apply zN | apply zO | refine chk_ok (by kernel_rfl) ?_)
                | ((with_reducible first | apply zP | apply zQ | apply zR | apply zL) <;> intro h <;> try (exfalso; first | omega | exact h rfl | (revert h; decide) | (cases h; done)))
                | ((with_reducible show False); omega)
                | ((first | (with_reducible first | apply zW | apply zV | apply zU | apply zS | apply zX | show VX _ _ _ _ _ _ _ | show vstep _ _ _ _ _ | show vskip _ _ _ | show withV _ _) | ((with_reducible show endA _ _ _ _ _ _ _); simp -implicitDefEqProofs only [endA]) | (with_reducible first | refine zB default (by first | omega | (simp only [LN]; omega)) (by first | omega | (simp only [LN]; omega)) ?_ | refine zC default (by first | omega | (simp only [LN]; omega)) ?_ | refine And.intro (by first | decide | omega | assumption | (simp only [LN]; omega)) ?_) | ((with_reducible show pickE _ _ _); first | refine zA _ ⟨by omega, by rfl⟩ ?_ | refine zA _ (by rfl) ?_) | fail); try simp -dsimp -implicitDefEqProofs (maxSteps := 1000000) (disch := first | omega | (simp only [LN]; omega)) only [go_sem])
                | fail)
               all_goals first | omega | (refine zZ (r, D', J', decide (r.length = 0)) ⟨by show r.length ≤ 8; omega, I'.le (by show _ ≤ 1000 + 100 * i + (8 - r.length); simp only [List.length_cons]; omega), hsafe2, hex2, fun x hx => hrng x (List.mem_cons_of_mem _ hx), rfl⟩ (Nat.lt_succ_self _) ?_; (simp -dsimp -implicitDefEqProofs (maxSteps := 1000000) (disch := first | omega | (simp only [LN, hbf]; omega)) only [go_sem, hbf]; try trivial))
              ·rw [hnb] at knx
               repeat' (first
                | (with_reducible first | apply zY | apply zT | apply zM | apply zN | apply zO | refine chk_ok (by kernel_rfl) ?_)
                | ((with_reducible first | apply zP | apply zQ | apply zR | apply zL) <;> intro h <;> try (exfalso; first | omega | exact h rfl | (revert h; decide) | (cases h; done)))
                | ((with_reducible show False); omega)
                | ((first | (with_reducible first | apply zW | apply zV | apply zU | apply zS | apply zX | show VX _ _ _ _ _ _ _ | show vstep _ _ _ _ _ | show vskip _ _ _ | show withV _ _) | ((with_reducible show endA _ _ _ _ _ _ _); simp -implicitDefEqProofs only [endA]) | (with_reducible first | refine zB default (by first | omega | (simp only [LN]; omega)) (by first | omega | (simp only [LN]; omega)) ?_ | refine zC default (by first | omega | (simp only [LN]; omega)) ?_ | refine And.intro (by first | decide | omega | assumption | (simp only [LN]; omega)) ?_) | (with_reducible first | apply zG | apply zH | apply zI | apply hidePI_own) | ((with_reducible apply zJ); (first | exact knx | fail)) | ((with_reducible show pickE _ _ _); first | refine zA _ ⟨by omega, by rfl⟩ ?_ | refine zA _ (by rfl) ?_) | fail); try simp -dsimp -implicitDefEqProofs (maxSteps := 1000000) (disch := first | omega | (simp only [LN]; omega)) only [go_sem])
                | fail)
               all_goals first | omega | (refine zZ (m + 1, (nxR H ks H.length).1) ⟨by show m + 1 ≤ 64; omega, pk.ok ks hks⟩ (by show 64 - (m + 1) < 64 - m; omega) ?_; (simp -dsimp -implicitDefEqProofs (maxSteps := 1000000) (disch := first | omega | (simp only [LN, w4, hbf]; omega)) only [go_sem, w4, hbf]; try trivial))
            ·obtain rfl : m = 64 := by omega
             repeat' (first
              | (with_reducible first | apply zY | apply zT | apply zM | apply zN | apply zO | refine chk_ok (by kernel_rfl) ?_)
              | ((with_reducible first | apply zP | apply zQ | apply zR | apply zL) <;> intro h <;> try (exfalso; first | omega | exact h rfl | (revert h; decide) | (cases h; done)))
              | ((with_reducible show False); omega)
              | ((first | (with_reducible first | apply zW | apply zV | apply zU | apply zS | apply zX | show VX _ _ _ _ _ _ _ | show vstep _ _ _ _ _ | show vskip _ _ _ | show withV _ _) | ((with_reducible show endA _ _ _ _ _ _ _); simp -implicitDefEqProofs only [endA]) | (with_reducible first | refine zB default (by first | omega | (simp only [LN]; omega)) (by first | omega | (simp only [LN]; omega)) ?_ | refine zC default (by first | omega | (simp only [LN]; omega)) ?_ | refine And.intro (by first | decide | omega | assumption | (simp only [LN]; omega)) ?_) | ((with_reducible show pickE _ _ _); first | refine zA _ ⟨by omega, by rfl⟩ ?_ | refine zA _ (by rfl) ?_) | fail); try simp -dsimp -implicitDefEqProofs (maxSteps := 1000000) (disch := first | omega | (simp only [LN]; omega)) only [go_sem])
              | fail)
             all_goals try omega
             refine range_end (.inl rfl) rfl ?_
             simp -dsimp -implicitDefEqProofs (maxSteps := 1000000) (disch := first | omega | (simp only [LN]; omega)) only [go_sem]
             repeat' (first
              | (with_reducible first | apply zY | apply zT | apply zM | apply zN | apply zO | refine chk_ok (by kernel_rfl) ?_)
              | ((with_reducible first | apply zP | apply zQ | apply zR | apply zL) <;> intro h <;> try (exfalso; first | omega | exact h rfl | (revert h; decide) | (cases h; done)))
              | ((with_reducible show False); omega)
              | ((first | (with_reducible first | apply zW | apply zV | apply zU | apply zS | apply zX | show VX _ _ _ _ _ _ _ | show vstep _ _ _ _ _ | show vskip _ _ _ | show withV _ _) | ((with_reducible show endA _ _ _ _ _ _ _); simp -implicitDefEqProofs only [endA]) | (with_reducible first | refine zB default (by first | omega | (simp only [LN]; omega)) (by first | omega | (simp only [LN]; omega)) ?_ | refine zC default (by first | omega | (simp only [LN]; omega)) ?_ | refine And.intro (by first | decide | omega | assumption | (simp only [LN]; omega)) ?_) | ((with_reducible show pickE _ _ _); first | refine zA _ ⟨by omega, by rfl⟩ ?_ | refine zA _ (by rfl) ?_) | fail); try simp -dsimp -implicitDefEqProofs (maxSteps := 1000000) (disch := first | omega | (simp only [LN]; omega)) only [go_sem])
              | fail)
             all_goals first | omega | (refine zZ (r, D', J', decide (r.length = 0)) ⟨by show r.length ≤ 8; omega, I'.le (by show _ ≤ 1000 + 100 * i + (8 - r.length); simp only [List.length_cons]; omega), hsafe2, hex2, fun x hx => hrng x (List.mem_cons_of_mem _ hx), rfl⟩ (Nat.lt_succ_self _) ?_; (simp -dsimp -implicitDefEqProofs (maxSteps := 1000000) (disch := first | omega | (simp only [LN]; omega)) only [go_sem]; try trivial))
    ·obtain rfl : i = ops.length := by omega
     repeat' (first
      | (with_reducible first | apply zY | apply zT | apply zM | apply zN | apply zO | refine chk_ok (by kernel_rfl) ?_)
      | ((with_reducible first | apply zP | apply zQ | apply zR | apply zL) <;> intro h <;> try (exfalso; first | omega | exact h rfl | (revert h; decide) | (cases h; done)))
      | ((with_reducible show False); omega)
      | ((first | (with_reducible first | apply zW | apply zV | apply zU | apply zS | apply zX | show VX _ _ _ _ _ _ _ | show vstep _ _ _ _ _ | show vskip _ _ _ | show withV _ _) | ((with_reducible show endA _ _ _ _ _ _ _); simp -implicitDefEqProofs only [endA]) | (with_reducible first | refine zB default (by first | omega | (simp only [LN]; omega)) (by first | omega | (simp only [LN]; omega)) ?_ | refine zC default (by first | omega | (simp only [LN]; omega)) ?_ | refine And.intro (by first | decide | omega | assumption | (simp only [LN]; omega)) ?_) | ((with_reducible show pickE _ _ _); first | refine zA _ ⟨by omega, by rfl⟩ ?_ | refine zA _ (by rfl) ?_) | fail); try simp -dsimp -implicitDefEqProofs (maxSteps := 1000000) (disch := first | omega | (simp only [LN]; omega)) only [go_sem])
      | fail)
     all_goals first | omega | rfl
end Go.Proofs.YtegekpjkbedngaaGreat
