/- Contracts of functions of this program, and the plain facts that they rest on. No conditions. -/
import Derived.Test.YtlkffmmgcoiniaaDoorD25a
set_option linter.unusedSimpArgs false
set_option linter.unusedVariables false
namespace Go.Proofs.YtlkffmmgcoiniaaDoor
open Go Go.Ab
attribute [local irreducible] callK callF loopQ vstep vskip pickE hideP
set_option maxRecDepth 100000
attribute [local go_sem] eF rF eS eP eX rX eQ eL eN eW
attribute [local irreducible] slotAt posE wdE wordsM getB setB mskN plAt getR setR putE getE badV cvK cvF wN
set_option maxRecDepth 100000 in
set_option maxHeartbeats 4000000 in
theorem a26 (x y : X) (Gx : Good x) (Gy : Good y) (hx : x.fs.length ≤ 40) (hy : y.fs.length ≤ 40) (ws : List Nat) (hu : U64 ws) (hlen : ws.length = wordsM x) : ACalls Tryd.prog 26 [.p (rX x), .p (rX y), .sl 0 1 0 (wordsM x)] [.arr 1 (ws.map eW)] (.p (.tup [.view 1 ((convR x y ws).1.map eW), .v (.int .i64 (convR x y ws).2)])) [.arr 1 (ws.map eW)] := by
  refine acalls_of (E := E) (fn := Tryd.f26) 105 [.tmp 6, .tmp 7] rfl rfl rfl rfl (by decide) rfl rfl ?_
  have htk : ws.take (wordsM x) = ws := List.take_of_length_le (by omega)
  have cwx := c23g Gx hx
  have cwy := c23g Gy hy
  have hby : wordsM y ≤ 60 := by have := Gy.fit; unfold wordsM; omega
  repeat' (first
    | (with_reducible first | refine r_seq ?_ | refine r_block ?_ | refine fork_not ?_ | refine fork_and ?_ | refine fork_or ?_ | refine chk_ok (by kernel_rfl) ?_)
    | ((with_reducible first | refine fork_dec ?_ ?_ | refine fork_eq ?_ ?_ | refine fork_ne ?_ ?_ | refine fork_intro ?_ ?_) <;> intro h <;> try (exfalso; first | omega | exact h rfl | (revert h; decide) | (cases h; done)))
    | ((with_reducible show False); omega)
    | ((first | (with_reducible first | refine r_exit ?_ | refine r_skip ?_ | refine r_cond ?_ | refine r_region ?_ | show VX _ _ _ _ _ _ _ | show vstep _ _ _ _ _ | show vskip _ _ _ | show withV _ _) | ((with_reducible show endA _ _ _ _ _ _ _); simp -implicitDefEqProofs only [endA])); simp -dsimp -implicitDefEqProofs (maxSteps := 1000000) (disch := first | omega | (simp only [LN, hlen]; omega)) only [go_sem, Int.reduceToNat, Int.reducePow, Nat.reducePow, Int.reduceAdd, Int.reduceMul, Int.reduceSub, Int.reduceNeg, Nat.reduceAdd, Nat.reduceMul, Nat.reduceSub, Nat.reduceEqDiff, Nat.reduceLT, Nat.reduceLeDiff, hlen])
    | ((first | (with_reducible refine r_ret ?_) | (with_reducible refine pick_viewG default (by first | omega | (simp only [LN, hlen]; omega)) (by first | omega | (simp only [LN, hlen]; omega)) ?_) | (with_reducible refine pick_own default (by first | omega | (simp only [LN, hlen]; omega)) ?_) | (with_reducible refine And.intro (by first | decide | omega | assumption | (simp only [LN, hlen]; omega)) ?_) | ((with_reducible apply callK_pure); (first | exact cwx | exact cwy | fail)) | ((with_reducible apply callF_lend); (first | exact cwx | exact cwy | fail); rfl) | ((with_reducible apply callF_go); (first | exact cwx | exact cwy | fail)) | ((with_reducible show pickE _ _ _); first | refine pickE_intro _ ⟨by omega, by rfl⟩ ?_ | refine pickE_intro _ (by rfl) ?_) | fail); try simp -dsimp -implicitDefEqProofs (maxSteps := 1000000) (disch := first | omega | (simp only [LN, hlen]; omega)) only [go_sem, Int.reduceToNat, Int.reducePow, Nat.reducePow, Int.reduceAdd, Int.reduceMul, Int.reduceSub, Int.reduceNeg, Nat.reduceAdd, Nat.reduceMul, Nat.reduceSub, Nat.reduceEqDiff, Nat.reduceLT, Nat.reduceLeDiff, hlen])
    | fail)
  all_goals try omega
  refine r_loopA (α := Nat) [2, 3, 4] (fun f b => [(8, .p (.view 1 ((cvF x y ws f).map eW))), (9, aI f)]) (fun f b => []) (fun f => []) (fun f => f ≤ y.fs.length ∧ ∀ k, k < f → errC x y ws k = 0) (fun f => y.fs.length - f) (0) ?h0_1 ?hs0_1 ?I_1 ?hI_1 ?round_1
  case hI_1 => intro x; (simp -dsimp -implicitDefEqProofs (maxSteps := 1000000) (disch := first | omega | (simp only [LN]; omega)) only [go_sem, Int.reduceToNat, Int.reducePow, Nat.reducePow, Int.reduceAdd, Int.reduceMul, Int.reduceSub, Int.reduceNeg, Nat.reduceAdd, Nat.reduceMul, Nat.reduceSub, Nat.reduceEqDiff, Nat.reduceLT, Nat.reduceLeDiff]) <;> exact rfl
  case hs0_1 => refine wk_auto ?_; (simp -dsimp -implicitDefEqProofs (maxSteps := 1000000) (disch := first | omega | (simp only [LN, cvF_0, List.take_replicate, Nat.min_self, List.length_replicate]; omega)) only [go_sem, Int.reduceToNat, Int.reducePow, Nat.reducePow, Int.reduceAdd, Int.reduceMul, Int.reduceSub, Int.reduceNeg, Nat.reduceAdd, Nat.reduceMul, Nat.reduceSub, Nat.reduceEqDiff, Nat.reduceLT, Nat.reduceLeDiff, cvF_0, List.take_replicate, Nat.min_self, List.length_replicate]) <;> (try omega)
  case h0_1 => exact ⟨Nat.zero_le _, fun k hk => absurd hk (by omega)⟩
  case round_1 =>
    intro f hf
    obtain ⟨hf1, hf2⟩ := hf
    obtain ⟨hfl, hfu⟩ := cvF_ok x y ws f
    by_cases hf3 : f < y.fs.length
    · have cn := cFind x hx (y.fs.getD f default).nm
      cases hfn : fnd x (y.fs.getD f default).nm with
      | none =>
        rw [fndI_n hfn] at cn
        have e := errC_n (ws := ws) hfn
        have ec := cvF_n (ws := ws) hfn
        repeat' (first
          | (with_reducible first | refine r_seq ?_ | refine r_block ?_ | refine fork_not ?_ | refine fork_and ?_ | refine fork_or ?_ | refine chk_ok (by kernel_rfl) ?_)
          | ((with_reducible first | refine fork_dec ?_ ?_ | refine fork_eq ?_ ?_ | refine fork_ne ?_ ?_ | refine fork_intro ?_ ?_) <;> intro h <;> try (exfalso; first | omega | exact h rfl | (revert h; decide) | (cases h; done)))
          | ((with_reducible show False); omega)
          | ((first | (with_reducible first | refine r_exit ?_ | refine r_skip ?_ | refine r_cond ?_ | refine r_region ?_ | show VX _ _ _ _ _ _ _ | show vstep _ _ _ _ _ | show vskip _ _ _ | show withV _ _) | ((with_reducible show endA _ _ _ _ _ _ _); simp -implicitDefEqProofs only [endA])); simp -dsimp -implicitDefEqProofs (maxSteps := 1000000) (disch := first | omega | (simp only [LN, hfl, htk, hlen]; omega)) only [go_sem, Int.reduceToNat, Int.reducePow, Nat.reducePow, Int.reduceAdd, Int.reduceMul, Int.reduceSub, Int.reduceNeg, Nat.reduceAdd, Nat.reduceMul, Nat.reduceSub, Nat.reduceEqDiff, Nat.reduceLT, Nat.reduceLeDiff, hfl, htk, hlen])
          | ((first | (with_reducible refine r_ret ?_) | (with_reducible refine pick_viewG default (by first | omega | (simp only [LN, hfl, htk, hlen]; omega)) (by first | omega | (simp only [LN, hfl, htk, hlen]; omega)) ?_) | (with_reducible refine pick_own default (by first | omega | (simp only [LN, hfl, htk, hlen]; omega)) ?_) | (with_reducible refine And.intro (by first | decide | omega | assumption | (simp only [LN, hfl, htk, hlen]; omega)) ?_) | ((with_reducible apply callK_pure); (exact cn)) | ((with_reducible apply callF_lend); (exact cn); rfl) | ((with_reducible apply callF_go); (exact cn)) | ((with_reducible show pickE _ _ _); first | refine pickE_intro _ ⟨by omega, by rfl⟩ ?_ | refine pickE_intro _ (by rfl) ?_) | fail); try simp -dsimp -implicitDefEqProofs (maxSteps := 1000000) (disch := first | omega | (simp only [LN, hfl, htk, hlen]; omega)) only [go_sem, Int.reduceToNat, Int.reducePow, Nat.reducePow, Int.reduceAdd, Int.reduceMul, Int.reduceSub, Int.reduceNeg, Nat.reduceAdd, Nat.reduceMul, Nat.reduceSub, Nat.reduceEqDiff, Nat.reduceLT, Nat.reduceLeDiff, hfl, htk, hlen])
          | fail)
        all_goals first | omega | (refine loopQ_next (f + 1) ?_ ?_ ?_; (exact ⟨by omega, lt_ext hf2 e⟩); (show _ < _; omega); (simp -dsimp -implicitDefEqProofs (maxSteps := 1000000) (disch := first | omega | (simp only [LN, ec]; omega)) only [go_sem, Int.reduceToNat, Int.reducePow, Nat.reducePow, Int.reduceAdd, Int.reduceMul, Int.reduceSub, Int.reduceNeg, Nat.reduceAdd, Nat.reduceMul, Nat.reduceSub, Nat.reduceEqDiff, Nat.reduceLT, Nat.reduceLeDiff, ec]; try trivial)) | trace_state
      | some g =>
        rw [fndI_s hfn] at cn
        have hg := (fndTo_some hfn).1
        have e := errC_s (ws := ws) hfn
        have hcg := Gx.cnt g hg
        by_cases h7 : (x.fs.getD g default).ty = 7 ↔ (y.fs.getD f default).ty = 7
        · have hb7 := of_eq_true (beq7_t h7)
          have hfg := cvF_s (ws := ws) hfn
          obtain ⟨c, hc⟩ := Int.eq_ofNat_of_zero_le (show (0 : Int) ≤ (x.fs.getD g default).cnt by omega)
          repeat' (first
            | (with_reducible first | refine r_seq ?_ | refine r_block ?_ | refine fork_not ?_ | refine fork_and ?_ | refine fork_or ?_ | refine chk_ok (by kernel_rfl) ?_)
            | ((with_reducible first | refine fork_dec ?_ ?_ | refine fork_eq ?_ ?_ | refine fork_ne ?_ ?_ | refine fork_intro ?_ ?_) <;> intro h <;> try (exfalso; first | omega | exact h rfl | (revert h; decide) | (cases h; done)))
            | ((with_reducible show False); omega)
            | ((first | (with_reducible first | refine r_exit ?_ | refine r_skip ?_ | refine r_cond ?_ | refine r_region ?_ | show VX _ _ _ _ _ _ _ | show vstep _ _ _ _ _ | show vskip _ _ _ | show withV _ _) | ((with_reducible show endA _ _ _ _ _ _ _); simp -implicitDefEqProofs only [endA])); simp -dsimp -implicitDefEqProofs (maxSteps := 1000000) (disch := first | omega | (simp only [LN, hfl, htk, hlen]; omega)) only [go_sem, Int.reduceToNat, Int.reducePow, Nat.reducePow, Int.reduceAdd, Int.reduceMul, Int.reduceSub, Int.reduceNeg, Nat.reduceAdd, Nat.reduceMul, Nat.reduceSub, Nat.reduceEqDiff, Nat.reduceLT, Nat.reduceLeDiff, hfl, htk, hlen])
            | ((first | (with_reducible refine r_ret ?_) | (with_reducible refine pick_viewG default (by first | omega | (simp only [LN, hfl, htk, hlen]; omega)) (by first | omega | (simp only [LN, hfl, htk, hlen]; omega)) ?_) | (with_reducible refine pick_own default (by first | omega | (simp only [LN, hfl, htk, hlen]; omega)) ?_) | (with_reducible refine And.intro (by first | decide | omega | assumption | (simp only [LN, hfl, htk, hlen]; omega)) ?_) | ((with_reducible apply callK_pure); (exact cn)) | ((with_reducible apply callF_lend); (exact cn); rfl) | ((with_reducible apply callF_go); (exact cn)) | ((with_reducible show pickE _ _ _); first | refine pickE_intro _ ⟨by omega, by rfl⟩ ?_ | refine pickE_intro _ (by rfl) ?_) | fail); try simp -dsimp -implicitDefEqProofs (maxSteps := 1000000) (disch := first | omega | (simp only [LN, hfl, htk, hlen]; omega)) only [go_sem, Int.reduceToNat, Int.reducePow, Nat.reducePow, Int.reduceAdd, Int.reduceMul, Int.reduceSub, Int.reduceNeg, Nat.reduceAdd, Nat.reduceMul, Nat.reduceSub, Nat.reduceEqDiff, Nat.reduceLT, Nat.reduceLeDiff, hfl, htk, hlen])
            | fail)
          all_goals try omega
          all_goals try contradiction
          all_goals
            refine r_loopA (α := Nat) [2, 3, 4, 9, 10, 12] (fun k b => [(8, .p (.view 1 ((cvK x y ws f g (cvF x y ws f) k).map eW))), (13, aI k)]) (fun k b => []) (fun k => []) (fun k => k ≤ c ∧ ∀ j, j < k → badK x y ws f g j = false) (fun k => c - k) (0) ?h0_2 ?hs0_2 ?I_2 ?hI_2 ?round_2
            case hI_2 => intro x; (simp -dsimp -implicitDefEqProofs (maxSteps := 1000000) (disch := first | omega | (simp only [LN]; omega)) only [go_sem, Int.reduceToNat, Int.reducePow, Nat.reducePow, Int.reduceAdd, Int.reduceMul, Int.reduceSub, Int.reduceNeg, Nat.reduceAdd, Nat.reduceMul, Nat.reduceSub, Nat.reduceEqDiff, Nat.reduceLT, Nat.reduceLeDiff]) <;> exact rfl
            case hs0_2 => refine wk_auto ?_; (simp -dsimp -implicitDefEqProofs (maxSteps := 1000000) (disch := first | omega | (simp only [LN, cvK_0]; omega)) only [go_sem, Int.reduceToNat, Int.reducePow, Nat.reducePow, Int.reduceAdd, Int.reduceMul, Int.reduceSub, Int.reduceNeg, Nat.reduceAdd, Nat.reduceMul, Nat.reduceSub, Nat.reduceEqDiff, Nat.reduceLT, Nat.reduceLeDiff, cvK_0]) <;> (try omega)
            case h0_2 => exact ⟨Nat.zero_le _, fun j hj => absurd hj (by omega)⟩
            case round_2 =>
              intro k hk
              obtain ⟨hk1, hk2⟩ := hk
              obtain ⟨hkl, hku⟩ := cvK_ok x y ws f g hfl hfu k
              by_cases hk3 : k < c
              · have cg := c30 x Gx hx ws hu (x.fs.getD g default).nm k
                rw [getR_at Gx hlen hg (by omega)] at cg
                have h64 := getE_64 x ws g k
                by_cases hge : (y.fs.getD f default).cnt ≤ k
                · have eb := badK_ge (x := x) (ws := ws) (g := g) hge
                  have ek := cvK_ge (x := x) (ws := ws) (g := g) (out := cvF x y ws f) hge
                  by_cases h0 : getE x ws g k = 0
                  · have hbk : badK x y ws f g k = false := by rw [eb, h0]; rfl
                    rw [h0] at cg
                    repeat' (first
                      | (with_reducible first | refine r_seq ?_ | refine r_block ?_ | refine fork_not ?_ | refine fork_and ?_ | refine fork_or ?_ | refine chk_ok (by kernel_rfl) ?_)
                      | ((with_reducible first | refine fork_dec ?_ ?_ | refine fork_eq ?_ ?_ | refine fork_ne ?_ ?_ | refine fork_intro ?_ ?_) <;> intro h <;> try (exfalso; first | omega | exact h rfl | (revert h; decide) | (cases h; done)))
                      | ((with_reducible show False); omega)
                      | ((first | (with_reducible first | refine r_exit ?_ | refine r_skip ?_ | refine r_cond ?_ | refine r_region ?_ | show VX _ _ _ _ _ _ _ | show vstep _ _ _ _ _ | show vskip _ _ _ | show withV _ _) | ((with_reducible show endA _ _ _ _ _ _ _); simp -implicitDefEqProofs only [endA])); simp -dsimp -implicitDefEqProofs (maxSteps := 1000000) (disch := first | omega | (simp only [LN, hkl, hc, htk, hlen]; omega)) only [go_sem, Int.reduceToNat, Int.reducePow, Nat.reducePow, Int.reduceAdd, Int.reduceMul, Int.reduceSub, Int.reduceNeg, Nat.reduceAdd, Nat.reduceMul, Nat.reduceSub, Nat.reduceEqDiff, Nat.reduceLT, Nat.reduceLeDiff, hkl, hc, htk, hlen])
                      | ((first | (with_reducible refine r_ret ?_) | (with_reducible refine pick_viewG default (by first | omega | (simp only [LN, hkl, hc, htk, hlen]; omega)) (by first | omega | (simp only [LN, hkl, hc, htk, hlen]; omega)) ?_) | (with_reducible refine pick_own default (by first | omega | (simp only [LN, hkl, hc, htk, hlen]; omega)) ?_) | (with_reducible refine And.intro (by first | decide | omega | assumption | (simp only [LN, hkl, hc, htk, hlen]; omega)) ?_) | ((with_reducible apply callK_pure); (exact cg)) | ((with_reducible apply callF_lend); (exact cg); rfl) | ((with_reducible apply callF_go); (exact cg)) | ((with_reducible show pickE _ _ _); first | refine pickE_intro _ ⟨by omega, by rfl⟩ ?_ | refine pickE_intro _ (by rfl) ?_) | fail); try simp -dsimp -implicitDefEqProofs (maxSteps := 1000000) (disch := first | omega | (simp only [LN, hkl, hc, htk, hlen]; omega)) only [go_sem, Int.reduceToNat, Int.reducePow, Nat.reducePow, Int.reduceAdd, Int.reduceMul, Int.reduceSub, Int.reduceNeg, Nat.reduceAdd, Nat.reduceMul, Nat.reduceSub, Nat.reduceEqDiff, Nat.reduceLT, Nat.reduceLeDiff, hkl, hc, htk, hlen])
                      | fail)
                    all_goals first | omega | (refine loopQ_next (k + 1) ?_ ?_ ?_; (exact ⟨by omega, lt_ext hk2 hbk⟩); (show _ < _; omega); (simp -dsimp -implicitDefEqProofs (maxSteps := 1000000) (disch := first | omega | (simp only [LN, ek]; omega)) only [go_sem, Int.reduceToNat, Int.reducePow, Nat.reducePow, Int.reduceAdd, Int.reduceMul, Int.reduceSub, Int.reduceNeg, Nat.reduceAdd, Nat.reduceMul, Nat.reduceSub, Nat.reduceEqDiff, Nat.reduceLT, Nat.reduceLeDiff, ek]; try trivial)) | trace_state
                  · have hbk : badK x y ws f g k = true := by rw [eb]; exact decide_eq_true h0
                    have e2 := errG_2 h7 (k := k) (by omega) hbk
                    have er := convR_e hlen hf3 hf2 (by rw [e, e2]; decide)
                    rw [e, e2] at er
                    repeat' (first
                      | (with_reducible first | refine r_seq ?_ | refine r_block ?_ | refine fork_not ?_ | refine fork_and ?_ | refine fork_or ?_ | refine chk_ok (by kernel_rfl) ?_)
                      | ((with_reducible first | refine fork_dec ?_ ?_ | refine fork_eq ?_ ?_ | refine fork_ne ?_ ?_ | refine fork_intro ?_ ?_) <;> intro h <;> try (exfalso; first | omega | exact h rfl | (revert h; decide) | (cases h; done)))
                      | ((with_reducible show False); omega)
                      | ((first | (with_reducible first | refine r_exit ?_ | refine r_skip ?_ | refine r_cond ?_ | refine r_region ?_ | show VX _ _ _ _ _ _ _ | show vstep _ _ _ _ _ | show vskip _ _ _ | show withV _ _) | ((with_reducible show endA _ _ _ _ _ _ _); simp -implicitDefEqProofs only [endA])); simp -dsimp -implicitDefEqProofs (maxSteps := 1000000) (disch := first | omega | (simp only [LN, er, hkl, hc, htk, hlen]; omega)) only [go_sem, Int.reduceToNat, Int.reducePow, Nat.reducePow, Int.reduceAdd, Int.reduceMul, Int.reduceSub, Int.reduceNeg, Nat.reduceAdd, Nat.reduceMul, Nat.reduceSub, Nat.reduceEqDiff, Nat.reduceLT, Nat.reduceLeDiff, er, hkl, hc, htk, hlen])
                      | ((first | (with_reducible refine r_ret ?_) | (with_reducible refine pick_viewG default (by first | omega | (simp only [LN, er, hkl, hc, htk, hlen]; omega)) (by first | omega | (simp only [LN, er, hkl, hc, htk, hlen]; omega)) ?_) | (with_reducible refine pick_own default (by first | omega | (simp only [LN, er, hkl, hc, htk, hlen]; omega)) ?_) | (with_reducible refine And.intro (by first | decide | omega | assumption | (simp only [LN, er, hkl, hc, htk, hlen]; omega)) ?_) | ((with_reducible apply callK_pure); (exact cg)) | ((with_reducible apply callF_lend); (exact cg); rfl) | ((with_reducible apply callF_go); (exact cg)) | ((with_reducible show pickE _ _ _); first | refine pickE_intro _ ⟨by omega, by rfl⟩ ?_ | refine pickE_intro _ (by rfl) ?_) | fail); try simp -dsimp -implicitDefEqProofs (maxSteps := 1000000) (disch := first | omega | (simp only [LN, er, hkl, hc, htk, hlen]; omega)) only [go_sem, Int.reduceToNat, Int.reducePow, Nat.reducePow, Int.reduceAdd, Int.reduceMul, Int.reduceSub, Int.reduceNeg, Nat.reduceAdd, Nat.reduceMul, Nat.reduceSub, Nat.reduceEqDiff, Nat.reduceLT, Nat.reduceLeDiff, er, hkl, hc, htk, hlen])
                      | fail)
                    all_goals first | rfl | omega | trace_state
                · have eb := badK_lt (x := x) (ws := ws) (g := g) hge
                  have ek := cvK_lt (x := x) (ws := ws) (g := g) (out := cvF x y ws f) hge
                  have cm := c46 _ (wok (y.fs.getD f default).ty)
                  cases hbv : badV (getE x ws g k) (x.fs.getD g default).ty (y.fs.getD f default).ty with
                  | true =>
                    have hiff := badV_iff.1 hbv
                    rw [hbv] at eb
                    have e2 := errG_2 h7 (k := k) (by omega) eb
                    have er := convR_e hlen hf3 hf2 (by rw [e, e2]; decide)
                    rw [e, e2] at er
                    by_cases h22 : (x.fs.getD g default).ty = 2 ↔ (y.fs.getD f default).ty = 2
                    · have hb2 := beq2_t h22
                      have hm : mskN (wN (y.fs.getD f default).ty) < getE x ws g k := by rcases hiff with h | h; exact absurd h22 h.2; exact h
                      repeat' (first
                        | (with_reducible first | refine r_seq ?_ | refine r_block ?_ | refine fork_not ?_ | refine fork_and ?_ | refine fork_or ?_ | refine chk_ok (by kernel_rfl) ?_)
                        | ((with_reducible first | refine fork_dec ?_ ?_ | refine fork_eq ?_ ?_ | refine fork_ne ?_ ?_ | refine fork_intro ?_ ?_) <;> intro h <;> try (exfalso; first | omega | exact h rfl | (revert h; decide) | (cases h; done)))
                        | ((with_reducible show False); omega)
                        | ((first | (with_reducible first | refine r_exit ?_ | refine r_skip ?_ | refine r_cond ?_ | refine r_region ?_ | show VX _ _ _ _ _ _ _ | show vstep _ _ _ _ _ | show vskip _ _ _ | show withV _ _) | ((with_reducible show endA _ _ _ _ _ _ _); simp -implicitDefEqProofs only [endA])); simp -dsimp -implicitDefEqProofs (maxSteps := 1000000) (disch := first | omega | (simp only [LN, er, hkl, hc, htk, hlen]; omega)) only [go_sem, Int.reduceToNat, Int.reducePow, Nat.reducePow, Int.reduceAdd, Int.reduceMul, Int.reduceSub, Int.reduceNeg, Nat.reduceAdd, Nat.reduceMul, Nat.reduceSub, Nat.reduceEqDiff, Nat.reduceLT, Nat.reduceLeDiff, er, hkl, hc, htk, hlen])
                        | ((first | (with_reducible refine r_ret ?_) | (with_reducible refine pick_viewG default (by first | omega | (simp only [LN, er, hkl, hc, htk, hlen]; omega)) (by first | omega | (simp only [LN, er, hkl, hc, htk, hlen]; omega)) ?_) | (with_reducible refine pick_own default (by first | omega | (simp only [LN, er, hkl, hc, htk, hlen]; omega)) ?_) | (with_reducible refine And.intro (by first | decide | omega | assumption | (simp only [LN, er, hkl, hc, htk, hlen]; omega)) ?_) | ((with_reducible apply callK_pure); (first | exact cg | exact c40n _ | exact cm | fail)) | ((with_reducible apply callF_lend); (first | exact cg | exact c40n _ | exact cm | fail); rfl) | ((with_reducible apply callF_go); (first | exact cg | exact c40n _ | exact cm | fail)) | ((with_reducible show pickE _ _ _); first | refine pickE_intro _ ⟨by omega, by rfl⟩ ?_ | refine pickE_intro _ (by rfl) ?_) | fail); try simp -dsimp -implicitDefEqProofs (maxSteps := 1000000) (disch := first | omega | (simp only [LN, er, hkl, hc, htk, hlen]; omega)) only [go_sem, Int.reduceToNat, Int.reducePow, Nat.reducePow, Int.reduceAdd, Int.reduceMul, Int.reduceSub, Int.reduceNeg, Nat.reduceAdd, Nat.reduceMul, Nat.reduceSub, Nat.reduceEqDiff, Nat.reduceLT, Nat.reduceLeDiff, er, hkl, hc, htk, hlen])
                        | fail)
                      all_goals first | rfl | omega | contradiction | trace_state
                    · have hb2 := beq2_f h22
                      repeat' (first
                        | (with_reducible first | refine r_seq ?_ | refine r_block ?_ | refine fork_not ?_ | refine fork_and ?_ | refine fork_or ?_ | refine chk_ok (by kernel_rfl) ?_)
                        | ((with_reducible first | refine fork_dec ?_ ?_ | refine fork_eq ?_ ?_ | refine fork_ne ?_ ?_ | refine fork_intro ?_ ?_) <;> intro h <;> try (exfalso; first | omega | exact h rfl | (revert h; decide) | (cases h; done)))
                        | ((with_reducible show False); omega)
                        | ((first | (with_reducible first | refine r_exit ?_ | refine r_skip ?_ | refine r_cond ?_ | refine r_region ?_ | show VX _ _ _ _ _ _ _ | show vstep _ _ _ _ _ | show vskip _ _ _ | show withV _ _) | ((with_reducible show endA _ _ _ _ _ _ _); simp -implicitDefEqProofs only [endA])); simp -dsimp -implicitDefEqProofs (maxSteps := 1000000) (disch := first | omega | (simp only [LN, er, hkl, hc, htk, hlen]; omega)) only [go_sem, Int.reduceToNat, Int.reducePow, Nat.reducePow, Int.reduceAdd, Int.reduceMul, Int.reduceSub, Int.reduceNeg, Nat.reduceAdd, Nat.reduceMul, Nat.reduceSub, Nat.reduceEqDiff, Nat.reduceLT, Nat.reduceLeDiff, er, hkl, hc, htk, hlen])
                        | ((first | (with_reducible refine r_ret ?_) | (with_reducible refine pick_viewG default (by first | omega | (simp only [LN, er, hkl, hc, htk, hlen]; omega)) (by first | omega | (simp only [LN, er, hkl, hc, htk, hlen]; omega)) ?_) | (with_reducible refine pick_own default (by first | omega | (simp only [LN, er, hkl, hc, htk, hlen]; omega)) ?_) | (with_reducible refine And.intro (by first | decide | omega | assumption | (simp only [LN, er, hkl, hc, htk, hlen]; omega)) ?_) | ((with_reducible apply callK_pure); (first | exact cg | exact c40n _ | exact cm | fail)) | ((with_reducible apply callF_lend); (first | exact cg | exact c40n _ | exact cm | fail); rfl) | ((with_reducible apply callF_go); (first | exact cg | exact c40n _ | exact cm | fail)) | ((with_reducible show pickE _ _ _); first | refine pickE_intro _ ⟨by omega, by rfl⟩ ?_ | refine pickE_intro _ (by rfl) ?_) | fail); try simp -dsimp -implicitDefEqProofs (maxSteps := 1000000) (disch := first | omega | (simp only [LN, er, hkl, hc, htk, hlen]; omega)) only [go_sem, Int.reduceToNat, Int.reducePow, Nat.reducePow, Int.reduceAdd, Int.reduceMul, Int.reduceSub, Int.reduceNeg, Nat.reduceAdd, Nat.reduceMul, Nat.reduceSub, Nat.reduceEqDiff, Nat.reduceLT, Nat.reduceLeDiff, er, hkl, hc, htk, hlen])
                        | fail)
                      all_goals first | rfl | omega | contradiction | (exfalso; rcases hiff with h | h <;> omega) | trace_state
                  | false =>
                    have hiff : ¬ ((9223372036854775808 ≤ getE x ws g k ∧ ¬ ((x.fs.getD g default).ty = 2 ↔ (y.fs.getD f default).ty = 2)) ∨ mskN (wN (y.fs.getD f default).ty) < getE x ws g k) := fun h => by
                      rw [badV_iff.2 h] at hbv; cases hbv
                    have hm : ¬ mskN (wN (y.fs.getD f default).ty) < getE x ws g k := fun h => hiff (.inr h)
                    have h2w := badV_w (y := y) (f := f) hbv
                    rw [hbv] at eb
                    have hset := c31 y Gy hy (cvK x y ws f g (cvF x y ws f) k) hku (y.fs.getD f default).nm k (getE x ws g k) h64
                    rw [setR_at Gy hkl hf3 (by omega) h2w] at hset
                    by_cases h22 : (x.fs.getD g default).ty = 2 ↔ (y.fs.getD f default).ty = 2
                    · have hb2 := beq2_t h22
                      repeat' (first
                        | (with_reducible first | refine r_seq ?_ | refine r_block ?_ | refine fork_not ?_ | refine fork_and ?_ | refine fork_or ?_ | refine chk_ok (by kernel_rfl) ?_)
                        | ((with_reducible first | refine fork_dec ?_ ?_ | refine fork_eq ?_ ?_ | refine fork_ne ?_ ?_ | refine fork_intro ?_ ?_) <;> intro h <;> try (exfalso; first | omega | exact h rfl | (revert h; decide) | (cases h; done)))
                        | ((with_reducible show False); omega)
                        | ((first | (with_reducible first | refine r_exit ?_ | refine r_skip ?_ | refine r_cond ?_ | refine r_region ?_ | show VX _ _ _ _ _ _ _ | show vstep _ _ _ _ _ | show vskip _ _ _ | show withV _ _) | ((with_reducible show endA _ _ _ _ _ _ _); simp -implicitDefEqProofs only [endA])); simp -dsimp -implicitDefEqProofs (maxSteps := 1000000) (disch := first | omega | (simp only [LN, hkl, hc, htk, hlen]; omega)) only [go_sem, Int.reduceToNat, Int.reducePow, Nat.reducePow, Int.reduceAdd, Int.reduceMul, Int.reduceSub, Int.reduceNeg, Nat.reduceAdd, Nat.reduceMul, Nat.reduceSub, Nat.reduceEqDiff, Nat.reduceLT, Nat.reduceLeDiff, hkl, hc, htk, hlen])
                        | ((first | (with_reducible refine r_ret ?_) | (with_reducible refine pick_viewG default (by first | omega | (simp only [LN, hkl, hc, htk, hlen]; omega)) (by first | omega | (simp only [LN, hkl, hc, htk, hlen]; omega)) ?_) | (with_reducible refine pick_own default (by first | omega | (simp only [LN, hkl, hc, htk, hlen]; omega)) ?_) | (with_reducible refine And.intro (by first | decide | omega | assumption | (simp only [LN, hkl, hc, htk, hlen]; omega)) ?_) | ((with_reducible apply callK_pure); (first | exact cg | exact c40n _ | exact cm | exact hset | fail)) | ((with_reducible apply callF_lend); (first | exact cg | exact c40n _ | exact cm | exact hset | fail); rfl) | ((with_reducible apply callF_go); (first | exact cg | exact c40n _ | exact cm | exact hset | fail)) | ((with_reducible show pickE _ _ _); first | refine pickE_intro _ ⟨by omega, by rfl⟩ ?_ | refine pickE_intro _ (by rfl) ?_) | fail); try simp -dsimp -implicitDefEqProofs (maxSteps := 1000000) (disch := first | omega | (simp only [LN, hkl, hc, htk, hlen]; omega)) only [go_sem, Int.reduceToNat, Int.reducePow, Nat.reducePow, Int.reduceAdd, Int.reduceMul, Int.reduceSub, Int.reduceNeg, Nat.reduceAdd, Nat.reduceMul, Nat.reduceSub, Nat.reduceEqDiff, Nat.reduceLT, Nat.reduceLeDiff, hkl, hc, htk, hlen])
                        | fail)
                      all_goals first | omega | contradiction | (refine loopQ_next (k + 1) ?_ ?_ ?_; (exact ⟨by omega, lt_ext hk2 eb⟩); (show _ < _; omega); (simp -dsimp -implicitDefEqProofs (maxSteps := 1000000) (disch := first | omega | (simp only [LN, ek]; omega)) only [go_sem, Int.reduceToNat, Int.reducePow, Nat.reducePow, Int.reduceAdd, Int.reduceMul, Int.reduceSub, Int.reduceNeg, Nat.reduceAdd, Nat.reduceMul, Nat.reduceSub, Nat.reduceEqDiff, Nat.reduceLT, Nat.reduceLeDiff, ek]; try trivial)) | trace_state
                    · have hb2 := beq2_f h22
                      have h63 : ¬ 9223372036854775808 ≤ getE x ws g k := fun h => hiff (.inl ⟨h, h22⟩)
                      repeat' (first
                        | (with_reducible first | refine r_seq ?_ | refine r_block ?_ | refine fork_not ?_ | refine fork_and ?_ | refine fork_or ?_ | refine chk_ok (by kernel_rfl) ?_)
                        | ((with_reducible first | refine fork_dec ?_ ?_ | refine fork_eq ?_ ?_ | refine fork_ne ?_ ?_ | refine fork_intro ?_ ?_) <;> intro h <;> try (exfalso; first | omega | exact h rfl | (revert h; decide) | (cases h; done)))
                        | ((with_reducible show False); omega)
                        | ((first | (with_reducible first | refine r_exit ?_ | refine r_skip ?_ | refine r_cond ?_ | refine r_region ?_ | show VX _ _ _ _ _ _ _ | show vstep _ _ _ _ _ | show vskip _ _ _ | show withV _ _) | ((with_reducible show endA _ _ _ _ _ _ _); simp -implicitDefEqProofs only [endA])); simp -dsimp -implicitDefEqProofs (maxSteps := 1000000) (disch := first | omega | (simp only [LN, hkl, hc, htk, hlen]; omega)) only [go_sem, Int.reduceToNat, Int.reducePow, Nat.reducePow, Int.reduceAdd, Int.reduceMul, Int.reduceSub, Int.reduceNeg, Nat.reduceAdd, Nat.reduceMul, Nat.reduceSub, Nat.reduceEqDiff, Nat.reduceLT, Nat.reduceLeDiff, hkl, hc, htk, hlen])
                        | ((first | (with_reducible refine r_ret ?_) | (with_reducible refine pick_viewG default (by first | omega | (simp only [LN, hkl, hc, htk, hlen]; omega)) (by first | omega | (simp only [LN, hkl, hc, htk, hlen]; omega)) ?_) | (with_reducible refine pick_own default (by first | omega | (simp only [LN, hkl, hc, htk, hlen]; omega)) ?_) | (with_reducible refine And.intro (by first | decide | omega | assumption | (simp only [LN, hkl, hc, htk, hlen]; omega)) ?_) | ((with_reducible apply callK_pure); (first | exact cg | exact c40n _ | exact cm | exact hset | fail)) | ((with_reducible apply callF_lend); (first | exact cg | exact c40n _ | exact cm | exact hset | fail); rfl) | ((with_reducible apply callF_go); (first | exact cg | exact c40n _ | exact cm | exact hset | fail)) | ((with_reducible show pickE _ _ _); first | refine pickE_intro _ ⟨by omega, by rfl⟩ ?_ | refine pickE_intro _ (by rfl) ?_) | fail); try simp -dsimp -implicitDefEqProofs (maxSteps := 1000000) (disch := first | omega | (simp only [LN, hkl, hc, htk, hlen]; omega)) only [go_sem, Int.reduceToNat, Int.reducePow, Nat.reducePow, Int.reduceAdd, Int.reduceMul, Int.reduceSub, Int.reduceNeg, Nat.reduceAdd, Nat.reduceMul, Nat.reduceSub, Nat.reduceEqDiff, Nat.reduceLT, Nat.reduceLeDiff, hkl, hc, htk, hlen])
                        | fail)
                      all_goals first | omega | contradiction | (refine loopQ_next (k + 1) ?_ ?_ ?_; (exact ⟨by omega, lt_ext hk2 eb⟩); (show _ < _; omega); (simp -dsimp -implicitDefEqProofs (maxSteps := 1000000) (disch := first | omega | (simp only [LN, ek]; omega)) only [go_sem, Int.reduceToNat, Int.reducePow, Nat.reducePow, Int.reduceAdd, Int.reduceMul, Int.reduceSub, Int.reduceNeg, Nat.reduceAdd, Nat.reduceMul, Nat.reduceSub, Nat.reduceEqDiff, Nat.reduceLT, Nat.reduceLeDiff, ek]; try trivial)) | trace_state
              · have hkc : k = c := by omega
                subst hkc
                have e2 := errG_0 (ws := ws) h7 (fun j hj => hk2 j (by omega))
                rw [e2] at e
                rw [hc, Int.toNat_natCast] at hfg
                repeat' (first
                  | (with_reducible first | refine r_seq ?_ | refine r_block ?_ | refine fork_not ?_ | refine fork_and ?_ | refine fork_or ?_ | refine chk_ok (by kernel_rfl) ?_)
                  | ((with_reducible first | refine fork_dec ?_ ?_ | refine fork_eq ?_ ?_ | refine fork_ne ?_ ?_ | refine fork_intro ?_ ?_) <;> intro h <;> try (exfalso; first | omega | exact h rfl | (revert h; decide) | (cases h; done)))
                  | ((with_reducible show False); omega)
                  | ((first | (with_reducible first | refine r_exit ?_ | refine r_skip ?_ | refine r_cond ?_ | refine r_region ?_ | show VX _ _ _ _ _ _ _ | show vstep _ _ _ _ _ | show vskip _ _ _ | show withV _ _) | ((with_reducible show endA _ _ _ _ _ _ _); simp -implicitDefEqProofs only [endA])); simp -dsimp -implicitDefEqProofs (maxSteps := 1000000) (disch := first | omega | (simp only [LN, hc, hkl, htk, hlen]; omega)) only [go_sem, Int.reduceToNat, Int.reducePow, Nat.reducePow, Int.reduceAdd, Int.reduceMul, Int.reduceSub, Int.reduceNeg, Nat.reduceAdd, Nat.reduceMul, Nat.reduceSub, Nat.reduceEqDiff, Nat.reduceLT, Nat.reduceLeDiff, hc, hkl, htk, hlen])
                  | ((first | (with_reducible refine r_ret ?_) | (with_reducible refine pick_viewG default (by first | omega | (simp only [LN, hc, hkl, htk, hlen]; omega)) (by first | omega | (simp only [LN, hc, hkl, htk, hlen]; omega)) ?_) | (with_reducible refine pick_own default (by first | omega | (simp only [LN, hc, hkl, htk, hlen]; omega)) ?_) | (with_reducible refine And.intro (by first | decide | omega | assumption | (simp only [LN, hc, hkl, htk, hlen]; omega)) ?_) | ((with_reducible show pickE _ _ _); first | refine pickE_intro _ ⟨by omega, by rfl⟩ ?_ | refine pickE_intro _ (by rfl) ?_) | fail); try simp -dsimp -implicitDefEqProofs (maxSteps := 1000000) (disch := first | omega | (simp only [LN, hc, hkl, htk, hlen]; omega)) only [go_sem, Int.reduceToNat, Int.reducePow, Nat.reducePow, Int.reduceAdd, Int.reduceMul, Int.reduceSub, Int.reduceNeg, Nat.reduceAdd, Nat.reduceMul, Nat.reduceSub, Nat.reduceEqDiff, Nat.reduceLT, Nat.reduceLeDiff, hc, hkl, htk, hlen])
                  | fail)
                all_goals first | omega | (refine loopQ_next (f + 1) ?_ ?_ ?_; (exact ⟨by omega, lt_ext hf2 e⟩); (show _ < _; omega); (simp -dsimp -implicitDefEqProofs (maxSteps := 1000000) (disch := first | omega | (simp only [LN, hfg]; omega)) only [go_sem, Int.reduceToNat, Int.reducePow, Nat.reducePow, Int.reduceAdd, Int.reduceMul, Int.reduceSub, Int.reduceNeg, Nat.reduceAdd, Nat.reduceMul, Nat.reduceSub, Nat.reduceEqDiff, Nat.reduceLT, Nat.reduceLeDiff, hfg]; try trivial)) | trace_state
        · have e2 := errG_16 (ws := ws) h7
          have er := convR_e hlen hf3 hf2 (by rw [e, e2]; decide)
          rw [e, e2] at er
          have hb7 := of_eq_false (beq7_f h7)
          repeat' (first
            | (with_reducible first | refine r_seq ?_ | refine r_block ?_ | refine fork_not ?_ | refine fork_and ?_ | refine fork_or ?_ | refine chk_ok (by kernel_rfl) ?_)
            | ((with_reducible first | refine fork_dec ?_ ?_ | refine fork_eq ?_ ?_ | refine fork_ne ?_ ?_ | refine fork_intro ?_ ?_) <;> intro h <;> try (exfalso; first | omega | exact h rfl | (revert h; decide) | (cases h; done)))
            | ((with_reducible show False); omega)
            | ((first | (with_reducible first | refine r_exit ?_ | refine r_skip ?_ | refine r_cond ?_ | refine r_region ?_ | show VX _ _ _ _ _ _ _ | show vstep _ _ _ _ _ | show vskip _ _ _ | show withV _ _) | ((with_reducible show endA _ _ _ _ _ _ _); simp -implicitDefEqProofs only [endA])); simp -dsimp -implicitDefEqProofs (maxSteps := 1000000) (disch := first | omega | (simp only [LN, er, hfl, htk, hlen]; omega)) only [go_sem, Int.reduceToNat, Int.reducePow, Nat.reducePow, Int.reduceAdd, Int.reduceMul, Int.reduceSub, Int.reduceNeg, Nat.reduceAdd, Nat.reduceMul, Nat.reduceSub, Nat.reduceEqDiff, Nat.reduceLT, Nat.reduceLeDiff, er, hfl, htk, hlen])
            | ((first | (with_reducible refine r_ret ?_) | (with_reducible refine pick_viewG default (by first | omega | (simp only [LN, er, hfl, htk, hlen]; omega)) (by first | omega | (simp only [LN, er, hfl, htk, hlen]; omega)) ?_) | (with_reducible refine pick_own default (by first | omega | (simp only [LN, er, hfl, htk, hlen]; omega)) ?_) | (with_reducible refine And.intro (by first | decide | omega | assumption | (simp only [LN, er, hfl, htk, hlen]; omega)) ?_) | ((with_reducible apply callK_pure); (exact cn)) | ((with_reducible apply callF_lend); (exact cn); rfl) | ((with_reducible apply callF_go); (exact cn)) | ((with_reducible show pickE _ _ _); first | refine pickE_intro _ ⟨by omega, by rfl⟩ ?_ | refine pickE_intro _ (by rfl) ?_) | fail); try simp -dsimp -implicitDefEqProofs (maxSteps := 1000000) (disch := first | omega | (simp only [LN, er, hfl, htk, hlen]; omega)) only [go_sem, Int.reduceToNat, Int.reducePow, Nat.reducePow, Int.reduceAdd, Int.reduceMul, Int.reduceSub, Int.reduceNeg, Nat.reduceAdd, Nat.reduceMul, Nat.reduceSub, Nat.reduceEqDiff, Nat.reduceLT, Nat.reduceLeDiff, er, hfl, htk, hlen])
            | fail)
          all_goals first | rfl | omega | contradiction | trace_state
    · obtain rfl : f = y.fs.length := by omega
      have er := convR_0 hlen hf2
      repeat' (first
        | (with_reducible first | refine r_seq ?_ | refine r_block ?_ | refine fork_not ?_ | refine fork_and ?_ | refine fork_or ?_ | refine chk_ok (by kernel_rfl) ?_)
        | ((with_reducible first | refine fork_dec ?_ ?_ | refine fork_eq ?_ ?_ | refine fork_ne ?_ ?_ | refine fork_intro ?_ ?_) <;> intro h <;> try (exfalso; first | omega | exact h rfl | (revert h; decide) | (cases h; done)))
        | ((with_reducible show False); omega)
        | ((first | (with_reducible first | refine r_exit ?_ | refine r_skip ?_ | refine r_cond ?_ | refine r_region ?_ | show VX _ _ _ _ _ _ _ | show vstep _ _ _ _ _ | show vskip _ _ _ | show withV _ _) | ((with_reducible show endA _ _ _ _ _ _ _); simp -implicitDefEqProofs only [endA])); simp -dsimp -implicitDefEqProofs (maxSteps := 1000000) (disch := first | omega | (simp only [LN, hfl, er, htk, hlen]; omega)) only [go_sem, Int.reduceToNat, Int.reducePow, Nat.reducePow, Int.reduceAdd, Int.reduceMul, Int.reduceSub, Int.reduceNeg, Nat.reduceAdd, Nat.reduceMul, Nat.reduceSub, Nat.reduceEqDiff, Nat.reduceLT, Nat.reduceLeDiff, hfl, er, htk, hlen])
        | ((first | (with_reducible refine r_ret ?_) | (with_reducible refine pick_viewG default (by first | omega | (simp only [LN, hfl, er, htk, hlen]; omega)) (by first | omega | (simp only [LN, hfl, er, htk, hlen]; omega)) ?_) | (with_reducible refine pick_own default (by first | omega | (simp only [LN, hfl, er, htk, hlen]; omega)) ?_) | (with_reducible refine And.intro (by first | decide | omega | assumption | (simp only [LN, hfl, er, htk, hlen]; omega)) ?_) | ((with_reducible show pickE _ _ _); first | refine pickE_intro _ ⟨by omega, by rfl⟩ ?_ | refine pickE_intro _ (by rfl) ?_) | fail); try simp -dsimp -implicitDefEqProofs (maxSteps := 1000000) (disch := first | omega | (simp only [LN, hfl, er, htk, hlen]; omega)) only [go_sem, Int.reduceToNat, Int.reducePow, Nat.reducePow, Int.reduceAdd, Int.reduceMul, Int.reduceSub, Int.reduceNeg, Nat.reduceAdd, Nat.reduceMul, Nat.reduceSub, Nat.reduceEqDiff, Nat.reduceLT, Nat.reduceLeDiff, hfl, er, htk, hlen])
        | fail)
      all_goals first | rfl | omega | trace_state
end Go.Proofs.YtlkffmmgcoiniaaDoor
