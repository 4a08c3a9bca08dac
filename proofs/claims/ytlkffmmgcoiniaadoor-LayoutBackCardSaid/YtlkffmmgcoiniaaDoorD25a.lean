/- Contracts of functions of this program, and the plain facts that they rest on. No conditions. -/
import Derived.Test.YtlkffmmgcoiniaaDoorD25
set_option linter.unusedSimpArgs false
set_option linter.unusedVariables false
namespace Go.Proofs.YtlkffmmgcoiniaaDoor
open Go Go.Ab
attribute [local irreducible] callK callF loopQ vstep vskip pickE hideP
set_option maxRecDepth 100000
attribute [local go_sem] eF rF eS eP eX rX eQ eL eN eW
attribute [local irreducible] slotAt posE wdE wordsM getB setB mskN plAt getR setR putE getE badV cvK cvF
set_option maxRecDepth 100000 in
set_option maxHeartbeats 4000000 in
theorem a25o (x y : X) (Gx : Good x) (Gy : Good y) (hx : x.fs.length ≤ 40) (hy : y.fs.length ≤ 40) (ws : List Nat) (hu : U64 ws) (hlen : ws.length = wordsM x) (hok : (convR x y ws).2 = 0) : ACalls Tryd.prog 25 [.p (eL (laG x)), .p (eL (laG y)), .sl 0 1 0 (wordsM x)] [.arr 1 (ws.map eW)] (.tup [.sl 1 1 0 (wordsM y), .p (.v (.int .i64 0))]) [.arr 1 (ws.map eW), .arr 1 ((convR x y ws).1.map eW)] := by
  refine acalls_of (E := E) (fn := Tryd.f25) 83 [.tmp 6, .tmp 7] rfl rfl rfl rfl (by decide) rfl rfl ?_
  have hwx := words_e (x := x)
  have hwy := words_e (x := y)
  have hwn := words_n y
  have hby : wordsM y ≤ 60 := by have := Gy.fit; unfold wordsM; omega
  have hsy := slotsTo_len y.fs y.fs.length
  have htk : ws.take (wordsM x) = ws := List.take_of_length_le (by omega)
  repeat' (first
    | (with_reducible first | refine r_seq ?_ | refine r_block ?_ | refine fork_not ?_ | refine fork_and ?_ | refine fork_or ?_ | refine chk_ok (by kernel_rfl) ?_)
    | ((with_reducible first | refine fork_dec ?_ ?_ | refine fork_eq ?_ ?_ | refine fork_ne ?_ ?_ | refine fork_intro ?_ ?_) <;> intro h <;> try (exfalso; first | omega | exact h rfl | (revert h; decide) | (cases h; done)))
    | ((with_reducible show False); omega)
    | ((first | (with_reducible first | refine r_exit ?_ | refine r_skip ?_ | refine r_cond ?_ | refine r_region ?_ | show VX _ _ _ _ _ _ _ | show vstep _ _ _ _ _ | show vskip _ _ _ | show withV _ _) | ((with_reducible show endA _ _ _ _ _ _ _); simp -implicitDefEqProofs only [endA])); simp -dsimp -implicitDefEqProofs (maxSteps := 1000000) (disch := first | omega | (simp only [LN, laG, hwn]; omega)) only [go_sem, Int.reduceToNat, Int.reducePow, Nat.reducePow, Int.reduceAdd, Int.reduceMul, Int.reduceSub, Int.reduceNeg, Nat.reduceAdd, Nat.reduceMul, Nat.reduceSub, Nat.reduceEqDiff, Nat.reduceLT, Nat.reduceLeDiff, laG, hwn])
    | ((first | (with_reducible refine r_ret ?_) | (with_reducible refine pick_viewG default (by first | omega | (simp only [LN, laG, hwn]; omega)) (by first | omega | (simp only [LN, laG, hwn]; omega)) ?_) | (with_reducible refine pick_own default (by first | omega | (simp only [LN, laG, hwn]; omega)) ?_) | (with_reducible refine And.intro (by first | decide | omega | assumption | (simp only [LN, laG, hwn]; omega)) ?_) | ((with_reducible show pickE _ _ _); first | refine pickE_intro _ ⟨by omega, by rfl⟩ ?_ | refine pickE_intro _ (by rfl) ?_) | fail); try simp -dsimp -implicitDefEqProofs (maxSteps := 1000000) (disch := first | omega | (simp only [LN, laG, hwn]; omega)) only [go_sem, Int.reduceToNat, Int.reducePow, Nat.reducePow, Int.reduceAdd, Int.reduceMul, Int.reduceSub, Int.reduceNeg, Nat.reduceAdd, Nat.reduceMul, Nat.reduceSub, Nat.reduceEqDiff, Nat.reduceLT, Nat.reduceLeDiff, laG, hwn])
    | fail)
  all_goals try omega
  refine r_loopA (α := Nat) [2, 3, 8, 26, 27] (fun f b => [(28, aI f)]) (fun f b => [(8, .arr 1 ((cvF x y ws f).map eW))]) (fun f => []) (fun f => f ≤ y.fs.length ∧ ∀ k, k < f → errC x y ws k = 0) (fun f => y.fs.length - f) (0) ?h0_1 ?hs0_1 ?I_1 ?hI_1 ?round_1
  case hI_1 => intro x; (simp -dsimp -implicitDefEqProofs (maxSteps := 1000000) (disch := first | omega | (simp only [LN]; omega)) only [go_sem, Int.reduceToNat, Int.reducePow, Nat.reducePow, Int.reduceAdd, Int.reduceMul, Int.reduceSub, Int.reduceNeg, Nat.reduceAdd, Nat.reduceMul, Nat.reduceSub, Nat.reduceEqDiff, Nat.reduceLT, Nat.reduceLeDiff]) <;> exact rfl
  case hs0_1 => refine wk_auto ?_; (simp -dsimp -implicitDefEqProofs (maxSteps := 1000000) (disch := first | omega | (simp only [LN, cvF_0]; omega)) only [go_sem, Int.reduceToNat, Int.reducePow, Nat.reducePow, Int.reduceAdd, Int.reduceMul, Int.reduceSub, Int.reduceNeg, Nat.reduceAdd, Nat.reduceMul, Nat.reduceSub, Nat.reduceEqDiff, Nat.reduceLT, Nat.reduceLeDiff, cvF_0]) <;> (try omega)
  case h0_1 => exact ⟨Nat.zero_le _, fun k hk => absurd hk (by omega)⟩
  case round_1 =>
    intro f hf
    obtain ⟨hf1, hf2⟩ := hf
    obtain ⟨hfl, hfu⟩ := cvF_ok x y ws f
    by_cases hf3 : f < y.fs.length
    · have hsg := slotsTo_get y.fs hf3
      have hsf := slotAt_f y.fs f
      have cf := c19g Gx hx (y.fs.getD f default).nm
      cases hfn : fnd x (y.fs.getD f default).nm with
      | none =>
        rw [hfn] at cf
        have e := errC_n (ws := ws) hfn
        have ec := cvF_n (ws := ws) hfn
        repeat' (first
          | (with_reducible first | refine r_seq ?_ | refine r_block ?_ | refine fork_not ?_ | refine fork_and ?_ | refine fork_or ?_ | refine chk_ok (by kernel_rfl) ?_)
          | ((with_reducible first | refine fork_dec ?_ ?_ | refine fork_eq ?_ ?_ | refine fork_ne ?_ ?_ | refine fork_intro ?_ ?_) <;> intro h <;> try (exfalso; first | omega | exact h rfl | (revert h; decide) | (cases h; done)))
          | ((with_reducible show False); omega)
          | ((first | (with_reducible first | refine r_exit ?_ | refine r_skip ?_ | refine r_cond ?_ | refine r_region ?_ | show VX _ _ _ _ _ _ _ | show vstep _ _ _ _ _ | show vskip _ _ _ | show withV _ _) | ((with_reducible show endA _ _ _ _ _ _ _); simp -implicitDefEqProofs only [endA])); simp -dsimp -implicitDefEqProofs (maxSteps := 1000000) (disch := first | omega | (simp only [LN, laG, hsg, hsf, hsy, hfl, htk, hlen]; omega)) only [go_sem, Int.reduceToNat, Int.reducePow, Nat.reducePow, Int.reduceAdd, Int.reduceMul, Int.reduceSub, Int.reduceNeg, Nat.reduceAdd, Nat.reduceMul, Nat.reduceSub, Nat.reduceEqDiff, Nat.reduceLT, Nat.reduceLeDiff, laG, hsg, hsf, hsy, hfl, htk, hlen])
          | ((first | (with_reducible refine r_ret ?_) | (with_reducible refine pick_viewG default (by first | omega | (simp only [LN, laG, hsg, hsf, hsy, hfl, htk, hlen]; omega)) (by first | omega | (simp only [LN, laG, hsg, hsf, hsy, hfl, htk, hlen]; omega)) ?_) | (with_reducible refine pick_own default (by first | omega | (simp only [LN, laG, hsg, hsf, hsy, hfl, htk, hlen]; omega)) ?_) | (with_reducible refine And.intro (by first | decide | omega | assumption | (simp only [LN, laG, hsg, hsf, hsy, hfl, htk, hlen]; omega)) ?_) | ((with_reducible apply callK_pure); (exact cf)) | ((with_reducible apply callF_lend); (exact cf); rfl) | ((with_reducible apply callF_go); (exact cf)) | ((with_reducible show pickE _ _ _); first | refine pickE_intro _ ⟨by omega, by rfl⟩ ?_ | refine pickE_intro _ (by rfl) ?_) | fail); try simp -dsimp -implicitDefEqProofs (maxSteps := 1000000) (disch := first | omega | (simp only [LN, laG, hsg, hsf, hsy, hfl, htk, hlen]; omega)) only [go_sem, Int.reduceToNat, Int.reducePow, Nat.reducePow, Int.reduceAdd, Int.reduceMul, Int.reduceSub, Int.reduceNeg, Nat.reduceAdd, Nat.reduceMul, Nat.reduceSub, Nat.reduceEqDiff, Nat.reduceLT, Nat.reduceLeDiff, laG, hsg, hsf, hsy, hfl, htk, hlen])
          | fail)
        all_goals first | omega | (refine loopQ_next (f + 1) ?_ ?_ ?_; (exact ⟨by omega, lt_ext hf2 e⟩); (show _ < _; omega); (simp -dsimp -implicitDefEqProofs (maxSteps := 1000000) (disch := first | omega | (simp only [LN, ec, hsy]; omega)) only [go_sem, Int.reduceToNat, Int.reducePow, Nat.reducePow, Int.reduceAdd, Int.reduceMul, Int.reduceSub, Int.reduceNeg, Nat.reduceAdd, Nat.reduceMul, Nat.reduceSub, Nat.reduceEqDiff, Nat.reduceLT, Nat.reduceLeDiff, ec, hsy]; try trivial)) | trace_state
      | some g =>
        rw [hfn] at cf
        have hg := (fndTo_some hfn).1
        have hgf := slotAt_f x.fs g
        have e := errC_s (ws := ws) hfn
        have hcg := Gx.cnt g hg
        by_cases h7 : (x.fs.getD g default).ty = 7 ↔ (y.fs.getD f default).ty = 7
        · have hb7 := of_eq_true (beq7_t h7)
          have hfg := cvF_s (ws := ws) hfn
          obtain ⟨c, hc⟩ := Int.eq_ofNat_of_zero_le (show (0 : Int) ≤ (x.fs.getD g default).cnt by omega)
          repeat' (first
            | (with_reducible first | refine r_seq ?_ | refine r_block ?_ | refine fork_not ?_ | refine fork_and ?_ | refine fork_or ?_ | refine chk_ok (by kernel_rfl) ?_)
            | ((with_reducible first | refine fork_dec ?_ ?_ | refine fork_eq ?_ ?_ | refine fork_ne ?_ ?_ | refine fork_intro ?_ ?_) <;> intro h <;> try (exfalso; first | omega | exact h rfl | (revert h; decide) | (cases h; done)))
            | ((with_reducible show False); omega)
            | ((first | (with_reducible first | refine r_exit ?_ | refine r_skip ?_ | refine r_cond ?_ | refine r_region ?_ | show VX _ _ _ _ _ _ _ | show vstep _ _ _ _ _ | show vskip _ _ _ | show withV _ _) | ((with_reducible show endA _ _ _ _ _ _ _); simp -implicitDefEqProofs only [endA])); simp -dsimp -implicitDefEqProofs (maxSteps := 1000000) (disch := first | omega | (simp only [LN, laG, hsg, hsf, hsy, hgf, hfl, htk, hlen]; omega)) only [go_sem, Int.reduceToNat, Int.reducePow, Nat.reducePow, Int.reduceAdd, Int.reduceMul, Int.reduceSub, Int.reduceNeg, Nat.reduceAdd, Nat.reduceMul, Nat.reduceSub, Nat.reduceEqDiff, Nat.reduceLT, Nat.reduceLeDiff, laG, hsg, hsf, hsy, hgf, hfl, htk, hlen])
            | ((first | (with_reducible refine r_ret ?_) | (with_reducible refine pick_viewG default (by first | omega | (simp only [LN, laG, hsg, hsf, hsy, hgf, hfl, htk, hlen]; omega)) (by first | omega | (simp only [LN, laG, hsg, hsf, hsy, hgf, hfl, htk, hlen]; omega)) ?_) | (with_reducible refine pick_own default (by first | omega | (simp only [LN, laG, hsg, hsf, hsy, hgf, hfl, htk, hlen]; omega)) ?_) | (with_reducible refine And.intro (by first | decide | omega | assumption | (simp only [LN, laG, hsg, hsf, hsy, hgf, hfl, htk, hlen]; omega)) ?_) | ((with_reducible apply callK_pure); (exact cf)) | ((with_reducible apply callF_lend); (exact cf); rfl) | ((with_reducible apply callF_go); (exact cf)) | ((with_reducible show pickE _ _ _); first | refine pickE_intro _ ⟨by omega, by rfl⟩ ?_ | refine pickE_intro _ (by rfl) ?_) | fail); try simp -dsimp -implicitDefEqProofs (maxSteps := 1000000) (disch := first | omega | (simp only [LN, laG, hsg, hsf, hsy, hgf, hfl, htk, hlen]; omega)) only [go_sem, Int.reduceToNat, Int.reducePow, Nat.reducePow, Int.reduceAdd, Int.reduceMul, Int.reduceSub, Int.reduceNeg, Nat.reduceAdd, Nat.reduceMul, Nat.reduceSub, Nat.reduceEqDiff, Nat.reduceLT, Nat.reduceLeDiff, laG, hsg, hsf, hsy, hgf, hfl, htk, hlen])
            | fail)
          all_goals try omega
          all_goals try contradiction
          all_goals
            refine r_loopA (α := Nat) [2, 3, 8, 10, 11, 13, 14, 26, 27, 28, 54] (fun k b => [(55, aI k)]) (fun k b => [(8, .arr 1 ((cvK x y ws f g (cvF x y ws f) k).map eW))]) (fun k => []) (fun k => k ≤ c ∧ ∀ j, j < k → badK x y ws f g j = false) (fun k => c - k) (0) ?h0_2 ?hs0_2 ?I_2 ?hI_2 ?round_2
            case hI_2 => intro x; (simp -dsimp -implicitDefEqProofs (maxSteps := 1000000) (disch := first | omega | (simp only [LN]; omega)) only [go_sem, Int.reduceToNat, Int.reducePow, Nat.reducePow, Int.reduceAdd, Int.reduceMul, Int.reduceSub, Int.reduceNeg, Nat.reduceAdd, Nat.reduceMul, Nat.reduceSub, Nat.reduceEqDiff, Nat.reduceLT, Nat.reduceLeDiff]) <;> exact rfl
            case hs0_2 => refine wk_auto ?_; (simp -dsimp -implicitDefEqProofs (maxSteps := 1000000) (disch := first | omega | (simp only [LN, cvK_0]; omega)) only [go_sem, Int.reduceToNat, Int.reducePow, Nat.reducePow, Int.reduceAdd, Int.reduceMul, Int.reduceSub, Int.reduceNeg, Nat.reduceAdd, Nat.reduceMul, Nat.reduceSub, Nat.reduceEqDiff, Nat.reduceLT, Nat.reduceLeDiff, cvK_0]) <;> (try omega)
            case h0_2 => exact ⟨Nat.zero_le _, fun j hj => absurd hj (by omega)⟩
            case round_2 =>
              intro k hk
              obtain ⟨hk1, hk2⟩ := hk
              obtain ⟨hkl, hku⟩ := cvK_ok x y ws f g hfl hfu k
              by_cases hk3 : k < c
              · have cg := getG' Gx hx hu hlen hg (k := k) (by omega)
                have h64 := getE_64 x ws g k
                by_cases hge : (y.fs.getD f default).cnt ≤ k
                · have eb := badK_ge (x := x) (ws := ws) (g := g) hge
                  have ek := cvK_ge (x := x) (ws := ws) (g := g) (out := cvF x y ws f) hge
                  by_cases h0 : getE x ws g k = 0
                  · have hbk : badK x y ws f g k = false := by rw [eb, h0]; rfl
                    repeat' (first
                      | (with_reducible first | refine r_seq ?_ | refine r_block ?_ | refine fork_not ?_ | refine fork_and ?_ | refine fork_or ?_ | refine chk_ok (by kernel_rfl) ?_)
                      | ((with_reducible first | refine fork_dec ?_ ?_ | refine fork_eq ?_ ?_ | refine fork_ne ?_ ?_ | refine fork_intro ?_ ?_) <;> intro h <;> try (exfalso; first | omega | exact h rfl | (revert h; decide) | (cases h; done)))
                      | ((with_reducible show False); omega)
                      | ((first | (with_reducible first | refine r_exit ?_ | refine r_skip ?_ | refine r_cond ?_ | refine r_region ?_ | show VX _ _ _ _ _ _ _ | show vstep _ _ _ _ _ | show vskip _ _ _ | show withV _ _) | ((with_reducible show endA _ _ _ _ _ _ _); simp -implicitDefEqProofs only [endA])); simp -dsimp -implicitDefEqProofs (maxSteps := 1000000) (disch := first | omega | (simp only [LN, hgf, hsf, h0, hkl, htk, hlen]; omega)) only [go_sem, Int.reduceToNat, Int.reducePow, Nat.reducePow, Int.reduceAdd, Int.reduceMul, Int.reduceSub, Int.reduceNeg, Nat.reduceAdd, Nat.reduceMul, Nat.reduceSub, Nat.reduceEqDiff, Nat.reduceLT, Nat.reduceLeDiff, hgf, hsf, h0, hkl, htk, hlen])
                      | ((first | (with_reducible refine r_ret ?_) | (with_reducible refine pick_viewG default (by first | omega | (simp only [LN, hgf, hsf, h0, hkl, htk, hlen]; omega)) (by first | omega | (simp only [LN, hgf, hsf, h0, hkl, htk, hlen]; omega)) ?_) | (with_reducible refine pick_own default (by first | omega | (simp only [LN, hgf, hsf, h0, hkl, htk, hlen]; omega)) ?_) | (with_reducible refine And.intro (by first | decide | omega | assumption | (simp only [LN, hgf, hsf, h0, hkl, htk, hlen]; omega)) ?_) | ((with_reducible apply callK_pure); (exact cg)) | ((with_reducible apply callF_lend); (exact cg); rfl) | ((with_reducible apply callF_go); (exact cg)) | ((with_reducible show pickE _ _ _); first | refine pickE_intro _ ⟨by omega, by rfl⟩ ?_ | refine pickE_intro _ (by rfl) ?_) | fail); try simp -dsimp -implicitDefEqProofs (maxSteps := 1000000) (disch := first | omega | (simp only [LN, hgf, hsf, h0, hkl, htk, hlen]; omega)) only [go_sem, Int.reduceToNat, Int.reducePow, Nat.reducePow, Int.reduceAdd, Int.reduceMul, Int.reduceSub, Int.reduceNeg, Nat.reduceAdd, Nat.reduceMul, Nat.reduceSub, Nat.reduceEqDiff, Nat.reduceLT, Nat.reduceLeDiff, hgf, hsf, h0, hkl, htk, hlen])
                      | fail)
                    all_goals first | omega | (refine loopQ_next (k + 1) ?_ ?_ ?_; (exact ⟨by omega, lt_ext hk2 hbk⟩); (show _ < _; omega); (simp -dsimp -implicitDefEqProofs (maxSteps := 1000000) (disch := first | omega | (simp only [LN, ek]; omega)) only [go_sem, Int.reduceToNat, Int.reducePow, Nat.reducePow, Int.reduceAdd, Int.reduceMul, Int.reduceSub, Int.reduceNeg, Nat.reduceAdd, Nat.reduceMul, Nat.reduceSub, Nat.reduceEqDiff, Nat.reduceLT, Nat.reduceLeDiff, ek]; try trivial)) | trace_state
                  · have hbk : badK x y ws f g k = true := by rw [eb]; exact decide_eq_true h0
                    have e2 := errG_2 h7 (k := k) (by omega) hbk
                    have er := convR_e hlen hf3 hf2 (by rw [e, e2]; decide)
                    rw [e, e2] at er
                    exfalso; rw [er] at hok; simp at hok
                · have eb := badK_lt (x := x) (ws := ws) (g := g) hge
                  have ek := cvK_lt (x := x) (ws := ws) (g := g) (out := cvF x y ws f) hge
                  have hta := tyG Gx hg
                  have htb := tyG Gy hf3
                  have cfit := c43 (getE x ws g k) h64 (x.fs.getD g default).ty (y.fs.getD f default).ty (by omega) htb
                  cases hbv : badV (getE x ws g k) (x.fs.getD g default).ty (y.fs.getD f default).ty with
                  | true =>
                    rw [hbv] at cfit eb
                    have e2 := errG_2 h7 (k := k) (by omega) eb
                    have er := convR_e hlen hf3 hf2 (by rw [e, e2]; decide)
                    rw [e, e2] at er
                    exfalso; rw [er] at hok; simp at hok
                  | false =>
                    rw [hbv] at cfit eb
                    have hset := setG' Gy hy hku hkl hf3 (k := k) (by omega) h64
                    repeat' (first
                      | (with_reducible first | refine r_seq ?_ | refine r_block ?_ | refine fork_not ?_ | refine fork_and ?_ | refine fork_or ?_ | refine chk_ok (by kernel_rfl) ?_)
                      | ((with_reducible first | refine fork_dec ?_ ?_ | refine fork_eq ?_ ?_ | refine fork_ne ?_ ?_ | refine fork_intro ?_ ?_) <;> intro h <;> try (exfalso; first | omega | exact h rfl | (revert h; decide) | (cases h; done)))
                      | ((with_reducible show False); omega)
                      | ((first | (with_reducible first | refine r_exit ?_ | refine r_skip ?_ | refine r_cond ?_ | refine r_region ?_ | show VX _ _ _ _ _ _ _ | show vstep _ _ _ _ _ | show vskip _ _ _ | show withV _ _) | ((with_reducible show endA _ _ _ _ _ _ _); simp -implicitDefEqProofs only [endA])); simp -dsimp -implicitDefEqProofs (maxSteps := 1000000) (disch := first | omega | (simp only [LN, hgf, hsf, hkl, htk, hlen]; omega)) only [go_sem, Int.reduceToNat, Int.reducePow, Nat.reducePow, Int.reduceAdd, Int.reduceMul, Int.reduceSub, Int.reduceNeg, Nat.reduceAdd, Nat.reduceMul, Nat.reduceSub, Nat.reduceEqDiff, Nat.reduceLT, Nat.reduceLeDiff, hgf, hsf, hkl, htk, hlen])
                      | ((first | (with_reducible refine r_ret ?_) | (with_reducible refine pick_viewG default (by first | omega | (simp only [LN, hgf, hsf, hkl, htk, hlen]; omega)) (by first | omega | (simp only [LN, hgf, hsf, hkl, htk, hlen]; omega)) ?_) | (with_reducible refine pick_own default (by first | omega | (simp only [LN, hgf, hsf, hkl, htk, hlen]; omega)) ?_) | (with_reducible refine And.intro (by first | decide | omega | assumption | (simp only [LN, hgf, hsf, hkl, htk, hlen]; omega)) ?_) | ((with_reducible apply callK_pure); (first | exact cg | exact cfit | fail)) | ((with_reducible apply callF_lend); (first | exact cg | exact cfit | fail); rfl) | ((with_reducible apply callF_go); (first | exact cg | exact cfit | fail)) | (with_reducible first | apply callK_lent | apply callF_lent | apply hideP_own) | ((with_reducible apply callA_go); (first | exact hset | fail)) | ((with_reducible show pickE _ _ _); first | refine pickE_intro _ ⟨by omega, by rfl⟩ ?_ | refine pickE_intro _ (by rfl) ?_) | fail); try simp -dsimp -implicitDefEqProofs (maxSteps := 1000000) (disch := first | omega | (simp only [LN, hgf, hsf, hkl, htk, hlen]; omega)) only [go_sem, Int.reduceToNat, Int.reducePow, Nat.reducePow, Int.reduceAdd, Int.reduceMul, Int.reduceSub, Int.reduceNeg, Nat.reduceAdd, Nat.reduceMul, Nat.reduceSub, Nat.reduceEqDiff, Nat.reduceLT, Nat.reduceLeDiff, hgf, hsf, hkl, htk, hlen])
                      | fail)
                    all_goals first | omega | (refine loopQ_next (k + 1) ?_ ?_ ?_; (exact ⟨by omega, lt_ext hk2 eb⟩); (show _ < _; omega); (simp -dsimp -implicitDefEqProofs (maxSteps := 1000000) (disch := first | omega | (simp only [LN, ek]; omega)) only [go_sem, Int.reduceToNat, Int.reducePow, Nat.reducePow, Int.reduceAdd, Int.reduceMul, Int.reduceSub, Int.reduceNeg, Nat.reduceAdd, Nat.reduceMul, Nat.reduceSub, Nat.reduceEqDiff, Nat.reduceLT, Nat.reduceLeDiff, ek]; try trivial)) | trace_state
              · have hkc : k = c := by omega
                subst hkc
                have e2 := errG_0 (ws := ws) h7 (fun j hj => hk2 j (by omega))
                rw [e2] at e
                rw [hc, Int.toNat_natCast] at hfg
                repeat' (first
                  | (with_reducible first | refine r_seq ?_ | refine r_block ?_ | refine fork_not ?_ | refine fork_and ?_ | refine fork_or ?_ | refine chk_ok (by kernel_rfl) ?_)
                  | ((with_reducible first | refine fork_dec ?_ ?_ | refine fork_eq ?_ ?_ | refine fork_ne ?_ ?_ | refine fork_intro ?_ ?_) <;> intro h <;> try (exfalso; first | omega | exact h rfl | (revert h; decide) | (cases h; done)))
                  | ((with_reducible show False); omega)
                  | ((first | (with_reducible first | refine r_exit ?_ | refine r_skip ?_ | refine r_cond ?_ | refine r_region ?_ | show VX _ _ _ _ _ _ _ | show vstep _ _ _ _ _ | show vskip _ _ _ | show withV _ _) | ((with_reducible show endA _ _ _ _ _ _ _); simp -implicitDefEqProofs only [endA])); simp -dsimp -implicitDefEqProofs (maxSteps := 1000000) (disch := first | omega | (simp only [LN, hgf, hsf, hc, hkl, hsy, htk, hlen]; omega)) only [go_sem, Int.reduceToNat, Int.reducePow, Nat.reducePow, Int.reduceAdd, Int.reduceMul, Int.reduceSub, Int.reduceNeg, Nat.reduceAdd, Nat.reduceMul, Nat.reduceSub, Nat.reduceEqDiff, Nat.reduceLT, Nat.reduceLeDiff, hgf, hsf, hc, hkl, hsy, htk, hlen])
                  | ((first | (with_reducible refine r_ret ?_) | (with_reducible refine pick_viewG default (by first | omega | (simp only [LN, hgf, hsf, hc, hkl, hsy, htk, hlen]; omega)) (by first | omega | (simp only [LN, hgf, hsf, hc, hkl, hsy, htk, hlen]; omega)) ?_) | (with_reducible refine pick_own default (by first | omega | (simp only [LN, hgf, hsf, hc, hkl, hsy, htk, hlen]; omega)) ?_) | (with_reducible refine And.intro (by first | decide | omega | assumption | (simp only [LN, hgf, hsf, hc, hkl, hsy, htk, hlen]; omega)) ?_) | ((with_reducible show pickE _ _ _); first | refine pickE_intro _ ⟨by omega, by rfl⟩ ?_ | refine pickE_intro _ (by rfl) ?_) | fail); try simp -dsimp -implicitDefEqProofs (maxSteps := 1000000) (disch := first | omega | (simp only [LN, hgf, hsf, hc, hkl, hsy, htk, hlen]; omega)) only [go_sem, Int.reduceToNat, Int.reducePow, Nat.reducePow, Int.reduceAdd, Int.reduceMul, Int.reduceSub, Int.reduceNeg, Nat.reduceAdd, Nat.reduceMul, Nat.reduceSub, Nat.reduceEqDiff, Nat.reduceLT, Nat.reduceLeDiff, hgf, hsf, hc, hkl, hsy, htk, hlen])
                  | fail)
                all_goals first | omega | (refine loopQ_next (f + 1) ?_ ?_ ?_; (exact ⟨by omega, lt_ext hf2 e⟩); (show _ < _; omega); (simp -dsimp -implicitDefEqProofs (maxSteps := 1000000) (disch := first | omega | (simp only [LN, hfg, hsy]; omega)) only [go_sem, Int.reduceToNat, Int.reducePow, Nat.reducePow, Int.reduceAdd, Int.reduceMul, Int.reduceSub, Int.reduceNeg, Nat.reduceAdd, Nat.reduceMul, Nat.reduceSub, Nat.reduceEqDiff, Nat.reduceLT, Nat.reduceLeDiff, hfg, hsy]; try trivial)) | trace_state
        · have e2 := errG_16 (ws := ws) h7
          have er := convR_e hlen hf3 hf2 (by rw [e, e2]; decide)
          rw [e, e2] at er
          exfalso; rw [er] at hok; simp at hok
    · obtain rfl : f = y.fs.length := by omega
      have er := convR_0 hlen hf2
      repeat' (first
        | (with_reducible first | refine r_seq ?_ | refine r_block ?_ | refine fork_not ?_ | refine fork_and ?_ | refine fork_or ?_ | refine chk_ok (by kernel_rfl) ?_)
        | ((with_reducible first | refine fork_dec ?_ ?_ | refine fork_eq ?_ ?_ | refine fork_ne ?_ ?_ | refine fork_intro ?_ ?_) <;> intro h <;> try (exfalso; first | omega | exact h rfl | (revert h; decide) | (cases h; done)))
        | ((with_reducible show False); omega)
        | ((first | (with_reducible first | refine r_exit ?_ | refine r_skip ?_ | refine r_cond ?_ | refine r_region ?_ | show VX _ _ _ _ _ _ _ | show vstep _ _ _ _ _ | show vskip _ _ _ | show withV _ _) | ((with_reducible show endA _ _ _ _ _ _ _); simp -implicitDefEqProofs only [endA])); simp -dsimp -implicitDefEqProofs (maxSteps := 1000000) (disch := first | omega | (simp only [LN, hsy, hfl, er, htk, hlen]; omega)) only [go_sem, Int.reduceToNat, Int.reducePow, Nat.reducePow, Int.reduceAdd, Int.reduceMul, Int.reduceSub, Int.reduceNeg, Nat.reduceAdd, Nat.reduceMul, Nat.reduceSub, Nat.reduceEqDiff, Nat.reduceLT, Nat.reduceLeDiff, hsy, hfl, er, htk, hlen])
        | ((first | (with_reducible refine r_ret ?_) | (with_reducible refine pick_viewG default (by first | omega | (simp only [LN, hsy, hfl, er, htk, hlen]; omega)) (by first | omega | (simp only [LN, hsy, hfl, er, htk, hlen]; omega)) ?_) | (with_reducible refine pick_own default (by first | omega | (simp only [LN, hsy, hfl, er, htk, hlen]; omega)) ?_) | (with_reducible refine And.intro (by first | decide | omega | assumption | (simp only [LN, hsy, hfl, er, htk, hlen]; omega)) ?_) | ((with_reducible show pickE _ _ _); first | refine pickE_intro _ ⟨by omega, by rfl⟩ ?_ | refine pickE_intro _ (by rfl) ?_) | fail); try simp -dsimp -implicitDefEqProofs (maxSteps := 1000000) (disch := first | omega | (simp only [LN, hsy, hfl, er, htk, hlen]; omega)) only [go_sem, Int.reduceToNat, Int.reducePow, Nat.reducePow, Int.reduceAdd, Int.reduceMul, Int.reduceSub, Int.reduceNeg, Nat.reduceAdd, Nat.reduceMul, Nat.reduceSub, Nat.reduceEqDiff, Nat.reduceLT, Nat.reduceLeDiff, hsy, hfl, er, htk, hlen])
        | fail)
      all_goals first | rfl | omega | (exact ⟨by omega, by rw [List.take_of_length_le (by omega)]⟩) | trace_state
set_option maxRecDepth 100000 in
set_option maxHeartbeats 4000000 in
theorem a25e (x y : X) (Gx : Good x) (Gy : Good y) (hx : x.fs.length ≤ 40) (hy : y.fs.length ≤ 40) (ws : List Nat) (hu : U64 ws) (hlen : ws.length = wordsM x) (q : Int) (hq : convR x y ws = ([], q)) (hq0 : q ≠ 0) : ACalls Tryd.prog 25 [.p (eL (laG x)), .p (eL (laG y)), .sl 0 1 0 (wordsM x)] [.arr 1 (ws.map eW)] (.p (.tup [.v (.slice none 0 0), .v (.int .i64 q)])) [.arr 1 (ws.map eW)] := by
  refine acalls_of (E := E) (fn := Tryd.f25) 83 [.tmp 6, .tmp 7] rfl rfl rfl rfl (by decide) rfl rfl ?_
  have hwx := words_e (x := x)
  have hwy := words_e (x := y)
  have hwn := words_n y
  have hby : wordsM y ≤ 60 := by have := Gy.fit; unfold wordsM; omega
  have hsy := slotsTo_len y.fs y.fs.length
  have htk : ws.take (wordsM x) = ws := List.take_of_length_le (by omega)
  repeat' (first
    | (with_reducible first | refine r_seq ?_ | refine r_block ?_ | refine fork_not ?_ | refine fork_and ?_ | refine fork_or ?_ | refine chk_ok (by kernel_rfl) ?_)
    | ((with_reducible first | refine fork_dec ?_ ?_ | refine fork_eq ?_ ?_ | refine fork_ne ?_ ?_ | refine fork_intro ?_ ?_) <;> intro h <;> try (exfalso; first | omega | exact h rfl | (revert h; decide) | (cases h; done)))
    | ((with_reducible show False); omega)
    | ((first | (with_reducible first | refine r_exit ?_ | refine r_skip ?_ | refine r_cond ?_ | refine r_region ?_ | show VX _ _ _ _ _ _ _ | show vstep _ _ _ _ _ | show vskip _ _ _ | show withV _ _) | ((with_reducible show endA _ _ _ _ _ _ _); simp -implicitDefEqProofs only [endA])); simp -dsimp -implicitDefEqProofs (maxSteps := 1000000) (disch := first | omega | (simp only [LN, laG, hwn]; omega)) only [go_sem, Int.reduceToNat, Int.reducePow, Nat.reducePow, Int.reduceAdd, Int.reduceMul, Int.reduceSub, Int.reduceNeg, Nat.reduceAdd, Nat.reduceMul, Nat.reduceSub, Nat.reduceEqDiff, Nat.reduceLT, Nat.reduceLeDiff, laG, hwn])
    | ((first | (with_reducible refine r_ret ?_) | (with_reducible refine pick_viewG default (by first | omega | (simp only [LN, laG, hwn]; omega)) (by first | omega | (simp only [LN, laG, hwn]; omega)) ?_) | (with_reducible refine pick_own default (by first | omega | (simp only [LN, laG, hwn]; omega)) ?_) | (with_reducible refine And.intro (by first | decide | omega | assumption | (simp only [LN, laG, hwn]; omega)) ?_) | ((with_reducible show pickE _ _ _); first | refine pickE_intro _ ⟨by omega, by rfl⟩ ?_ | refine pickE_intro _ (by rfl) ?_) | fail); try simp -dsimp -implicitDefEqProofs (maxSteps := 1000000) (disch := first | omega | (simp only [LN, laG, hwn]; omega)) only [go_sem, Int.reduceToNat, Int.reducePow, Nat.reducePow, Int.reduceAdd, Int.reduceMul, Int.reduceSub, Int.reduceNeg, Nat.reduceAdd, Nat.reduceMul, Nat.reduceSub, Nat.reduceEqDiff, Nat.reduceLT, Nat.reduceLeDiff, laG, hwn])
    | fail)
  all_goals try omega
  refine r_loopA (α := Nat) [2, 3, 8, 26, 27] (fun f b => [(28, aI f)]) (fun f b => [(8, .arr 1 ((cvF x y ws f).map eW))]) (fun f => []) (fun f => f ≤ y.fs.length ∧ ∀ k, k < f → errC x y ws k = 0) (fun f => y.fs.length - f) (0) ?h0_3 ?hs0_3 ?I_3 ?hI_3 ?round_3
  case hI_3 => intro x; (simp -dsimp -implicitDefEqProofs (maxSteps := 1000000) (disch := first | omega | (simp only [LN]; omega)) only [go_sem, Int.reduceToNat, Int.reducePow, Nat.reducePow, Int.reduceAdd, Int.reduceMul, Int.reduceSub, Int.reduceNeg, Nat.reduceAdd, Nat.reduceMul, Nat.reduceSub, Nat.reduceEqDiff, Nat.reduceLT, Nat.reduceLeDiff]) <;> exact rfl
  case hs0_3 => refine wk_auto ?_; (simp -dsimp -implicitDefEqProofs (maxSteps := 1000000) (disch := first | omega | (simp only [LN, cvF_0]; omega)) only [go_sem, Int.reduceToNat, Int.reducePow, Nat.reducePow, Int.reduceAdd, Int.reduceMul, Int.reduceSub, Int.reduceNeg, Nat.reduceAdd, Nat.reduceMul, Nat.reduceSub, Nat.reduceEqDiff, Nat.reduceLT, Nat.reduceLeDiff, cvF_0]) <;> (try omega)
  case h0_3 => exact ⟨Nat.zero_le _, fun k hk => absurd hk (by omega)⟩
  case round_3 =>
    intro f hf
    obtain ⟨hf1, hf2⟩ := hf
    obtain ⟨hfl, hfu⟩ := cvF_ok x y ws f
    by_cases hf3 : f < y.fs.length
    · have hsg := slotsTo_get y.fs hf3
      have hsf := slotAt_f y.fs f
      have cf := c19g Gx hx (y.fs.getD f default).nm
      cases hfn : fnd x (y.fs.getD f default).nm with
      | none =>
        rw [hfn] at cf
        have e := errC_n (ws := ws) hfn
        have ec := cvF_n (ws := ws) hfn
        repeat' (first
          | (with_reducible first | refine r_seq ?_ | refine r_block ?_ | refine fork_not ?_ | refine fork_and ?_ | refine fork_or ?_ | refine chk_ok (by kernel_rfl) ?_)
          | ((with_reducible first | refine fork_dec ?_ ?_ | refine fork_eq ?_ ?_ | refine fork_ne ?_ ?_ | refine fork_intro ?_ ?_) <;> intro h <;> try (exfalso; first | omega | exact h rfl | (revert h; decide) | (cases h; done)))
          | ((with_reducible show False); omega)
          | ((first | (with_reducible first | refine r_exit ?_ | refine r_skip ?_ | refine r_cond ?_ | refine r_region ?_ | show VX _ _ _ _ _ _ _ | show vstep _ _ _ _ _ | show vskip _ _ _ | show withV _ _) | ((with_reducible show endA _ _ _ _ _ _ _); simp -implicitDefEqProofs only [endA])); simp -dsimp -implicitDefEqProofs (maxSteps := 1000000) (disch := first | omega | (simp only [LN, laG, hsg, hsf, hsy, hfl, htk, hlen]; omega)) only [go_sem, Int.reduceToNat, Int.reducePow, Nat.reducePow, Int.reduceAdd, Int.reduceMul, Int.reduceSub, Int.reduceNeg, Nat.reduceAdd, Nat.reduceMul, Nat.reduceSub, Nat.reduceEqDiff, Nat.reduceLT, Nat.reduceLeDiff, laG, hsg, hsf, hsy, hfl, htk, hlen])
          | ((first | (with_reducible refine r_ret ?_) | (with_reducible refine pick_viewG default (by first | omega | (simp only [LN, laG, hsg, hsf, hsy, hfl, htk, hlen]; omega)) (by first | omega | (simp only [LN, laG, hsg, hsf, hsy, hfl, htk, hlen]; omega)) ?_) | (with_reducible refine pick_own default (by first | omega | (simp only [LN, laG, hsg, hsf, hsy, hfl, htk, hlen]; omega)) ?_) | (with_reducible refine And.intro (by first | decide | omega | assumption | (simp only [LN, laG, hsg, hsf, hsy, hfl, htk, hlen]; omega)) ?_) | ((with_reducible apply callK_pure); (exact cf)) | ((with_reducible apply callF_lend); (exact cf); rfl) | ((with_reducible apply callF_go); (exact cf)) | ((with_reducible show pickE _ _ _); first | refine pickE_intro _ ⟨by omega, by rfl⟩ ?_ | refine pickE_intro _ (by rfl) ?_) | fail); try simp -dsimp -implicitDefEqProofs (maxSteps := 1000000) (disch := first | omega | (simp only [LN, laG, hsg, hsf, hsy, hfl, htk, hlen]; omega)) only [go_sem, Int.reduceToNat, Int.reducePow, Nat.reducePow, Int.reduceAdd, Int.reduceMul, Int.reduceSub, Int.reduceNeg, Nat.reduceAdd, Nat.reduceMul, Nat.reduceSub, Nat.reduceEqDiff, Nat.reduceLT, Nat.reduceLeDiff, laG, hsg, hsf, hsy, hfl, htk, hlen])
          | fail)
        all_goals first | omega | (refine loopQ_next (f + 1) ?_ ?_ ?_; (exact ⟨by omega, lt_ext hf2 e⟩); (show _ < _; omega); (simp -dsimp -implicitDefEqProofs (maxSteps := 1000000) (disch := first | omega | (simp only [LN, ec, hsy]; omega)) only [go_sem, Int.reduceToNat, Int.reducePow, Nat.reducePow, Int.reduceAdd, Int.reduceMul, Int.reduceSub, Int.reduceNeg, Nat.reduceAdd, Nat.reduceMul, Nat.reduceSub, Nat.reduceEqDiff, Nat.reduceLT, Nat.reduceLeDiff, ec, hsy]; try trivial)) | trace_state
      | some g =>
        rw [hfn] at cf
        have hg := (fndTo_some hfn).1
        have hgf := slotAt_f x.fs g
        have e := errC_s (ws := ws) hfn
        have hcg := Gx.cnt g hg
        by_cases h7 : (x.fs.getD g default).ty = 7 ↔ (y.fs.getD f default).ty = 7
        · have hb7 := of_eq_true (beq7_t h7)
          have hfg := cvF_s (ws := ws) hfn
          obtain ⟨c, hc⟩ := Int.eq_ofNat_of_zero_le (show (0 : Int) ≤ (x.fs.getD g default).cnt by omega)
          repeat' (first
            | (with_reducible first | refine r_seq ?_ | refine r_block ?_ | refine fork_not ?_ | refine fork_and ?_ | refine fork_or ?_ | refine chk_ok (by kernel_rfl) ?_)
            | ((with_reducible first | refine fork_dec ?_ ?_ | refine fork_eq ?_ ?_ | refine fork_ne ?_ ?_ | refine fork_intro ?_ ?_) <;> intro h <;> try (exfalso; first | omega | exact h rfl | (revert h; decide) | (cases h; done)))
            | ((with_reducible show False); omega)
            | ((first | (with_reducible first | refine r_exit ?_ | refine r_skip ?_ | refine r_cond ?_ | refine r_region ?_ | show VX _ _ _ _ _ _ _ | show vstep _ _ _ _ _ | show vskip _ _ _ | show withV _ _) | ((with_reducible show endA _ _ _ _ _ _ _); simp -implicitDefEqProofs only [endA])); simp -dsimp -implicitDefEqProofs (maxSteps := 1000000) (disch := first | omega | (simp only [LN, laG, hsg, hsf, hsy, hgf, hfl, htk, hlen]; omega)) only [go_sem, Int.reduceToNat, Int.reducePow, Nat.reducePow, Int.reduceAdd, Int.reduceMul, Int.reduceSub, Int.reduceNeg, Nat.reduceAdd, Nat.reduceMul, Nat.reduceSub, Nat.reduceEqDiff, Nat.reduceLT, Nat.reduceLeDiff, laG, hsg, hsf, hsy, hgf, hfl, htk, hlen])
            | ((first | (with_reducible refine r_ret ?_) | (with_reducible refine pick_viewG default (by first | omega | (simp only [LN, laG, hsg, hsf, hsy, hgf, hfl, htk, hlen]; omega)) (by first | omega | (simp only [LN, laG, hsg, hsf, hsy, hgf, hfl, htk, hlen]; omega)) ?_) | (with_reducible refine pick_own default (by first | omega | (simp only [LN, laG, hsg, hsf, hsy, hgf, hfl, htk, hlen]; omega)) ?_) | (with_reducible refine And.intro (by first | decide | omega | assumption | (simp only [LN, laG, hsg, hsf, hsy, hgf, hfl, htk, hlen]; omega)) ?_) | ((with_reducible apply callK_pure); (exact cf)) | ((with_reducible apply callF_lend); (exact cf); rfl) | ((with_reducible apply callF_go); (exact cf)) | ((with_reducible show pickE _ _ _); first | refine pickE_intro _ ⟨by omega, by rfl⟩ ?_ | refine pickE_intro _ (by rfl) ?_) | fail); try simp -dsimp -implicitDefEqProofs (maxSteps := 1000000) (disch := first | omega | (simp only [LN, laG, hsg, hsf, hsy, hgf, hfl, htk, hlen]; omega)) only [go_sem, Int.reduceToNat, Int.reducePow, Nat.reducePow, Int.reduceAdd, Int.reduceMul, Int.reduceSub, Int.reduceNeg, Nat.reduceAdd, Nat.reduceMul, Nat.reduceSub, Nat.reduceEqDiff, Nat.reduceLT, Nat.reduceLeDiff, laG, hsg, hsf, hsy, hgf, hfl, htk, hlen])
            | fail)
          all_goals try omega
          all_goals try contradiction
          all_goals
            refine r_loopA (α := Nat) [2, 3, 8, 10, 11, 13, 14, 26, 27, 28, 54] (fun k b => [(55, aI k)]) (fun k b => [(8, .arr 1 ((cvK x y ws f g (cvF x y ws f) k).map eW))]) (fun k => []) (fun k => k ≤ c ∧ ∀ j, j < k → badK x y ws f g j = false) (fun k => c - k) (0) ?h0_4 ?hs0_4 ?I_4 ?hI_4 ?round_4
            case hI_4 => intro x; (simp -dsimp -implicitDefEqProofs (maxSteps := 1000000) (disch := first | omega | (simp only [LN]; omega)) only [go_sem, Int.reduceToNat, Int.reducePow, Nat.reducePow, Int.reduceAdd, Int.reduceMul, Int.reduceSub, Int.reduceNeg, Nat.reduceAdd, Nat.reduceMul, Nat.reduceSub, Nat.reduceEqDiff, Nat.reduceLT, Nat.reduceLeDiff]) <;> exact rfl
            case hs0_4 => refine wk_auto ?_; (simp -dsimp -implicitDefEqProofs (maxSteps := 1000000) (disch := first | omega | (simp only [LN, cvK_0]; omega)) only [go_sem, Int.reduceToNat, Int.reducePow, Nat.reducePow, Int.reduceAdd, Int.reduceMul, Int.reduceSub, Int.reduceNeg, Nat.reduceAdd, Nat.reduceMul, Nat.reduceSub, Nat.reduceEqDiff, Nat.reduceLT, Nat.reduceLeDiff, cvK_0]) <;> (try omega)
            case h0_4 => exact ⟨Nat.zero_le _, fun j hj => absurd hj (by omega)⟩
            case round_4 =>
              intro k hk
              obtain ⟨hk1, hk2⟩ := hk
              obtain ⟨hkl, hku⟩ := cvK_ok x y ws f g hfl hfu k
              by_cases hk3 : k < c
              · have cg := getG' Gx hx hu hlen hg (k := k) (by omega)
                have h64 := getE_64 x ws g k
                by_cases hge : (y.fs.getD f default).cnt ≤ k
                · have eb := badK_ge (x := x) (ws := ws) (g := g) hge
                  have ek := cvK_ge (x := x) (ws := ws) (g := g) (out := cvF x y ws f) hge
                  by_cases h0 : getE x ws g k = 0
                  · have hbk : badK x y ws f g k = false := by rw [eb, h0]; rfl
                    repeat' (first
                      | (with_reducible first | refine r_seq ?_ | refine r_block ?_ | refine fork_not ?_ | refine fork_and ?_ | refine fork_or ?_ | refine chk_ok (by kernel_rfl) ?_)
                      | ((with_reducible first | refine fork_dec ?_ ?_ | refine fork_eq ?_ ?_ | refine fork_ne ?_ ?_ | refine fork_intro ?_ ?_) <;> intro h <;> try (exfalso; first | omega | exact h rfl | (revert h; decide) | (cases h; done)))
                      | ((with_reducible show False); omega)
                      | ((first | (with_reducible first | refine r_exit ?_ | refine r_skip ?_ | refine r_cond ?_ | refine r_region ?_ | show VX _ _ _ _ _ _ _ | show vstep _ _ _ _ _ | show vskip _ _ _ | show withV _ _) | ((with_reducible show endA _ _ _ _ _ _ _); simp -implicitDefEqProofs only [endA])); simp -dsimp -implicitDefEqProofs (maxSteps := 1000000) (disch := first | omega | (simp only [LN, hgf, hsf, h0, hkl, htk, hlen]; omega)) only [go_sem, Int.reduceToNat, Int.reducePow, Nat.reducePow, Int.reduceAdd, Int.reduceMul, Int.reduceSub, Int.reduceNeg, Nat.reduceAdd, Nat.reduceMul, Nat.reduceSub, Nat.reduceEqDiff, Nat.reduceLT, Nat.reduceLeDiff, hgf, hsf, h0, hkl, htk, hlen])
                      | ((first | (with_reducible refine r_ret ?_) | (with_reducible refine pick_viewG default (by first | omega | (simp only [LN, hgf, hsf, h0, hkl, htk, hlen]; omega)) (by first | omega | (simp only [LN, hgf, hsf, h0, hkl, htk, hlen]; omega)) ?_) | (with_reducible refine pick_own default (by first | omega | (simp only [LN, hgf, hsf, h0, hkl, htk, hlen]; omega)) ?_) | (with_reducible refine And.intro (by first | decide | omega | assumption | (simp only [LN, hgf, hsf, h0, hkl, htk, hlen]; omega)) ?_) | ((with_reducible apply callK_pure); (exact cg)) | ((with_reducible apply callF_lend); (exact cg); rfl) | ((with_reducible apply callF_go); (exact cg)) | ((with_reducible show pickE _ _ _); first | refine pickE_intro _ ⟨by omega, by rfl⟩ ?_ | refine pickE_intro _ (by rfl) ?_) | fail); try simp -dsimp -implicitDefEqProofs (maxSteps := 1000000) (disch := first | omega | (simp only [LN, hgf, hsf, h0, hkl, htk, hlen]; omega)) only [go_sem, Int.reduceToNat, Int.reducePow, Nat.reducePow, Int.reduceAdd, Int.reduceMul, Int.reduceSub, Int.reduceNeg, Nat.reduceAdd, Nat.reduceMul, Nat.reduceSub, Nat.reduceEqDiff, Nat.reduceLT, Nat.reduceLeDiff, hgf, hsf, h0, hkl, htk, hlen])
                      | fail)
                    all_goals first | omega | (refine loopQ_next (k + 1) ?_ ?_ ?_; (exact ⟨by omega, lt_ext hk2 hbk⟩); (show _ < _; omega); (simp -dsimp -implicitDefEqProofs (maxSteps := 1000000) (disch := first | omega | (simp only [LN, ek]; omega)) only [go_sem, Int.reduceToNat, Int.reducePow, Nat.reducePow, Int.reduceAdd, Int.reduceMul, Int.reduceSub, Int.reduceNeg, Nat.reduceAdd, Nat.reduceMul, Nat.reduceSub, Nat.reduceEqDiff, Nat.reduceLT, Nat.reduceLeDiff, ek]; try trivial)) | trace_state
                  · have hbk : badK x y ws f g k = true := by rw [eb]; exact decide_eq_true h0
                    have e2 := errG_2 h7 (k := k) (by omega) hbk
                    have er := convR_e hlen hf3 hf2 (by rw [e, e2]; decide)
                    rw [e, e2] at er
                    have hqe := hq; rw [er] at hqe; have hqe := (Prod.mk.inj hqe).2; subst hqe
                    repeat' (first
                      | (with_reducible first | refine r_seq ?_ | refine r_block ?_ | refine fork_not ?_ | refine fork_and ?_ | refine fork_or ?_ | refine chk_ok (by kernel_rfl) ?_)
                      | ((with_reducible first | refine fork_dec ?_ ?_ | refine fork_eq ?_ ?_ | refine fork_ne ?_ ?_ | refine fork_intro ?_ ?_) <;> intro h <;> try (exfalso; first | omega | exact h rfl | (revert h; decide) | (cases h; done)))
                      | ((with_reducible show False); omega)
                      | ((first | (with_reducible first | refine r_exit ?_ | refine r_skip ?_ | refine r_cond ?_ | refine r_region ?_ | show VX _ _ _ _ _ _ _ | show vstep _ _ _ _ _ | show vskip _ _ _ | show withV _ _) | ((with_reducible show endA _ _ _ _ _ _ _); simp -implicitDefEqProofs only [endA])); simp -dsimp -implicitDefEqProofs (maxSteps := 1000000) (disch := first | omega | (simp only [LN, hgf, hsf, er, hkl, htk, hlen]; omega)) only [go_sem, Int.reduceToNat, Int.reducePow, Nat.reducePow, Int.reduceAdd, Int.reduceMul, Int.reduceSub, Int.reduceNeg, Nat.reduceAdd, Nat.reduceMul, Nat.reduceSub, Nat.reduceEqDiff, Nat.reduceLT, Nat.reduceLeDiff, hgf, hsf, er, hkl, htk, hlen])
                      | ((first | (with_reducible refine r_ret ?_) | (with_reducible refine pick_viewG default (by first | omega | (simp only [LN, hgf, hsf, er, hkl, htk, hlen]; omega)) (by first | omega | (simp only [LN, hgf, hsf, er, hkl, htk, hlen]; omega)) ?_) | (with_reducible refine pick_own default (by first | omega | (simp only [LN, hgf, hsf, er, hkl, htk, hlen]; omega)) ?_) | (with_reducible refine And.intro (by first | decide | omega | assumption | (simp only [LN, hgf, hsf, er, hkl, htk, hlen]; omega)) ?_) | ((with_reducible apply callK_pure); (exact cg)) | ((with_reducible apply callF_lend); (exact cg); rfl) | ((with_reducible apply callF_go); (exact cg)) | ((with_reducible show pickE _ _ _); first | refine pickE_intro _ ⟨by omega, by rfl⟩ ?_ | refine pickE_intro _ (by rfl) ?_) | fail); try simp -dsimp -implicitDefEqProofs (maxSteps := 1000000) (disch := first | omega | (simp only [LN, hgf, hsf, er, hkl, htk, hlen]; omega)) only [go_sem, Int.reduceToNat, Int.reducePow, Nat.reducePow, Int.reduceAdd, Int.reduceMul, Int.reduceSub, Int.reduceNeg, Nat.reduceAdd, Nat.reduceMul, Nat.reduceSub, Nat.reduceEqDiff, Nat.reduceLT, Nat.reduceLeDiff, hgf, hsf, er, hkl, htk, hlen])
                      | fail)
                    all_goals first | rfl | omega | trace_state
                · have eb := badK_lt (x := x) (ws := ws) (g := g) hge
                  have ek := cvK_lt (x := x) (ws := ws) (g := g) (out := cvF x y ws f) hge
                  have hta := tyG Gx hg
                  have htb := tyG Gy hf3
                  have cfit := c43 (getE x ws g k) h64 (x.fs.getD g default).ty (y.fs.getD f default).ty (by omega) htb
                  cases hbv : badV (getE x ws g k) (x.fs.getD g default).ty (y.fs.getD f default).ty with
                  | true =>
                    rw [hbv] at cfit eb
                    have e2 := errG_2 h7 (k := k) (by omega) eb
                    have er := convR_e hlen hf3 hf2 (by rw [e, e2]; decide)
                    rw [e, e2] at er
                    have hqe := hq; rw [er] at hqe; have hqe := (Prod.mk.inj hqe).2; subst hqe
                    repeat' (first
                      | (with_reducible first | refine r_seq ?_ | refine r_block ?_ | refine fork_not ?_ | refine fork_and ?_ | refine fork_or ?_ | refine chk_ok (by kernel_rfl) ?_)
                      | ((with_reducible first | refine fork_dec ?_ ?_ | refine fork_eq ?_ ?_ | refine fork_ne ?_ ?_ | refine fork_intro ?_ ?_) <;> intro h <;> try (exfalso; first | omega | exact h rfl | (revert h; decide) | (cases h; done)))
                      | ((with_reducible show False); omega)
                      | ((first | (with_reducible first | refine r_exit ?_ | refine r_skip ?_ | refine r_cond ?_ | refine r_region ?_ | show VX _ _ _ _ _ _ _ | show vstep _ _ _ _ _ | show vskip _ _ _ | show withV _ _) | ((with_reducible show endA _ _ _ _ _ _ _); simp -implicitDefEqProofs only [endA])); simp -dsimp -implicitDefEqProofs (maxSteps := 1000000) (disch := first | omega | (simp only [LN, hgf, hsf, er, hkl, htk, hlen]; omega)) only [go_sem, Int.reduceToNat, Int.reducePow, Nat.reducePow, Int.reduceAdd, Int.reduceMul, Int.reduceSub, Int.reduceNeg, Nat.reduceAdd, Nat.reduceMul, Nat.reduceSub, Nat.reduceEqDiff, Nat.reduceLT, Nat.reduceLeDiff, hgf, hsf, er, hkl, htk, hlen])
                      | ((first | (with_reducible refine r_ret ?_) | (with_reducible refine pick_viewG default (by first | omega | (simp only [LN, hgf, hsf, er, hkl, htk, hlen]; omega)) (by first | omega | (simp only [LN, hgf, hsf, er, hkl, htk, hlen]; omega)) ?_) | (with_reducible refine pick_own default (by first | omega | (simp only [LN, hgf, hsf, er, hkl, htk, hlen]; omega)) ?_) | (with_reducible refine And.intro (by first | decide | omega | assumption | (simp only [LN, hgf, hsf, er, hkl, htk, hlen]; omega)) ?_) | ((with_reducible apply callK_pure); (first | exact cg | exact cfit | fail)) | ((with_reducible apply callF_lend); (first | exact cg | exact cfit | fail); rfl) | ((with_reducible apply callF_go); (first | exact cg | exact cfit | fail)) | ((with_reducible show pickE _ _ _); first | refine pickE_intro _ ⟨by omega, by rfl⟩ ?_ | refine pickE_intro _ (by rfl) ?_) | fail); try simp -dsimp -implicitDefEqProofs (maxSteps := 1000000) (disch := first | omega | (simp only [LN, hgf, hsf, er, hkl, htk, hlen]; omega)) only [go_sem, Int.reduceToNat, Int.reducePow, Nat.reducePow, Int.reduceAdd, Int.reduceMul, Int.reduceSub, Int.reduceNeg, Nat.reduceAdd, Nat.reduceMul, Nat.reduceSub, Nat.reduceEqDiff, Nat.reduceLT, Nat.reduceLeDiff, hgf, hsf, er, hkl, htk, hlen])
                      | fail)
                    all_goals first | rfl | omega | trace_state
                  | false =>
                    rw [hbv] at cfit eb
                    have hset := setG' Gy hy hku hkl hf3 (k := k) (by omega) h64
                    repeat' (first
                      | (with_reducible first | refine r_seq ?_ | refine r_block ?_ | refine fork_not ?_ | refine fork_and ?_ | refine fork_or ?_ | refine chk_ok (by kernel_rfl) ?_)
                      | ((with_reducible first | refine fork_dec ?_ ?_ | refine fork_eq ?_ ?_ | refine fork_ne ?_ ?_ | refine fork_intro ?_ ?_) <;> intro h <;> try (exfalso; first | omega | exact h rfl | (revert h; decide) | (cases h; done)))
                      | ((with_reducible show False); omega)
                      | ((first | (with_reducible first | refine r_exit ?_ | refine r_skip ?_ | refine r_cond ?_ | refine r_region ?_ | show VX _ _ _ _ _ _ _ | show vstep _ _ _ _ _ | show vskip _ _ _ | show withV _ _) | ((with_reducible show endA _ _ _ _ _ _ _); simp -implicitDefEqProofs only [endA])); simp -dsimp -implicitDefEqProofs (maxSteps := 1000000) (disch := first | omega | (simp only [LN, hgf, hsf, hkl, htk, hlen]; omega)) only [go_sem, Int.reduceToNat, Int.reducePow, Nat.reducePow, Int.reduceAdd, Int.reduceMul, Int.reduceSub, Int.reduceNeg, Nat.reduceAdd, Nat.reduceMul, Nat.reduceSub, Nat.reduceEqDiff, Nat.reduceLT, Nat.reduceLeDiff, hgf, hsf, hkl, htk, hlen])
                      | ((first | (with_reducible refine r_ret ?_) | (with_reducible refine pick_viewG default (by first | omega | (simp only [LN, hgf, hsf, hkl, htk, hlen]; omega)) (by first | omega | (simp only [LN, hgf, hsf, hkl, htk, hlen]; omega)) ?_) | (with_reducible refine pick_own default (by first | omega | (simp only [LN, hgf, hsf, hkl, htk, hlen]; omega)) ?_) | (with_reducible refine And.intro (by first | decide | omega | assumption | (simp only [LN, hgf, hsf, hkl, htk, hlen]; omega)) ?_) | ((with_reducible apply callK_pure); (first | exact cg | exact cfit | fail)) | ((with_reducible apply callF_lend); (first | exact cg | exact cfit | fail); rfl) | ((with_reducible apply callF_go); (first | exact cg | exact cfit | fail)) | (with_reducible first | apply callK_lent | apply callF_lent | apply hideP_own) | ((with_reducible apply callA_go); (first | exact hset | fail)) | ((with_reducible show pickE _ _ _); first | refine pickE_intro _ ⟨by omega, by rfl⟩ ?_ | refine pickE_intro _ (by rfl) ?_) | fail); try simp -dsimp -implicitDefEqProofs (maxSteps := 1000000) (disch := first | omega | (simp only [LN, hgf, hsf, hkl, htk, hlen]; omega)) only [go_sem, Int.reduceToNat, Int.reducePow, Nat.reducePow, Int.reduceAdd, Int.reduceMul, Int.reduceSub, Int.reduceNeg, Nat.reduceAdd, Nat.reduceMul, Nat.reduceSub, Nat.reduceEqDiff, Nat.reduceLT, Nat.reduceLeDiff, hgf, hsf, hkl, htk, hlen])
                      | fail)
                    all_goals first | omega | (refine loopQ_next (k + 1) ?_ ?_ ?_; (exact ⟨by omega, lt_ext hk2 eb⟩); (show _ < _; omega); (simp -dsimp -implicitDefEqProofs (maxSteps := 1000000) (disch := first | omega | (simp only [LN, ek]; omega)) only [go_sem, Int.reduceToNat, Int.reducePow, Nat.reducePow, Int.reduceAdd, Int.reduceMul, Int.reduceSub, Int.reduceNeg, Nat.reduceAdd, Nat.reduceMul, Nat.reduceSub, Nat.reduceEqDiff, Nat.reduceLT, Nat.reduceLeDiff, ek]; try trivial)) | trace_state
              · have hkc : k = c := by omega
                subst hkc
                have e2 := errG_0 (ws := ws) h7 (fun j hj => hk2 j (by omega))
                rw [e2] at e
                rw [hc, Int.toNat_natCast] at hfg
                repeat' (first
                  | (with_reducible first | refine r_seq ?_ | refine r_block ?_ | refine fork_not ?_ | refine fork_and ?_ | refine fork_or ?_ | refine chk_ok (by kernel_rfl) ?_)
                  | ((with_reducible first | refine fork_dec ?_ ?_ | refine fork_eq ?_ ?_ | refine fork_ne ?_ ?_ | refine fork_intro ?_ ?_) <;> intro h <;> try (exfalso; first | omega | exact h rfl | (revert h; decide) | (cases h; done)))
                  | ((with_reducible show False); omega)
                  | ((first | (with_reducible first | refine r_exit ?_ | refine r_skip ?_ | refine r_cond ?_ | refine r_region ?_ | show VX _ _ _ _ _ _ _ | show vstep _ _ _ _ _ | show vskip _ _ _ | show withV _ _) | ((with_reducible show endA _ _ _ _ _ _ _); simp -implicitDefEqProofs only [endA])); simp -dsimp -implicitDefEqProofs (maxSteps := 1000000) (disch := first | omega | (simp only [LN, hgf, hsf, hc, hkl, hsy, htk, hlen]; omega)) only [go_sem, Int.reduceToNat, Int.reducePow, Nat.reducePow, Int.reduceAdd, Int.reduceMul, Int.reduceSub, Int.reduceNeg, Nat.reduceAdd, Nat.reduceMul, Nat.reduceSub, Nat.reduceEqDiff, Nat.reduceLT, Nat.reduceLeDiff, hgf, hsf, hc, hkl, hsy, htk, hlen])
                  | ((first | (with_reducible refine r_ret ?_) | (with_reducible refine pick_viewG default (by first | omega | (simp only [LN, hgf, hsf, hc, hkl, hsy, htk, hlen]; omega)) (by first | omega | (simp only [LN, hgf, hsf, hc, hkl, hsy, htk, hlen]; omega)) ?_) | (with_reducible refine pick_own default (by first | omega | (simp only [LN, hgf, hsf, hc, hkl, hsy, htk, hlen]; omega)) ?_) | (with_reducible refine And.intro (by first | decide | omega | assumption | (simp only [LN, hgf, hsf, hc, hkl, hsy, htk, hlen]; omega)) ?_) | ((with_reducible show pickE _ _ _); first | refine pickE_intro _ ⟨by omega, by rfl⟩ ?_ | refine pickE_intro _ (by rfl) ?_) | fail); try simp -dsimp -implicitDefEqProofs (maxSteps := 1000000) (disch := first | omega | (simp only [LN, hgf, hsf, hc, hkl, hsy, htk, hlen]; omega)) only [go_sem, Int.reduceToNat, Int.reducePow, Nat.reducePow, Int.reduceAdd, Int.reduceMul, Int.reduceSub, Int.reduceNeg, Nat.reduceAdd, Nat.reduceMul, Nat.reduceSub, Nat.reduceEqDiff, Nat.reduceLT, Nat.reduceLeDiff, hgf, hsf, hc, hkl, hsy, htk, hlen])
                  | fail)
                all_goals first | omega | (refine loopQ_next (f + 1) ?_ ?_ ?_; (exact ⟨by omega, lt_ext hf2 e⟩); (show _ < _; omega); (simp -dsimp -implicitDefEqProofs (maxSteps := 1000000) (disch := first | omega | (simp only [LN, hfg, hsy]; omega)) only [go_sem, Int.reduceToNat, Int.reducePow, Nat.reducePow, Int.reduceAdd, Int.reduceMul, Int.reduceSub, Int.reduceNeg, Nat.reduceAdd, Nat.reduceMul, Nat.reduceSub, Nat.reduceEqDiff, Nat.reduceLT, Nat.reduceLeDiff, hfg, hsy]; try trivial)) | trace_state
        · have e2 := errG_16 (ws := ws) h7
          have er := convR_e hlen hf3 hf2 (by rw [e, e2]; decide)
          rw [e, e2] at er
          have hqe := hq; rw [er] at hqe; have hqe := (Prod.mk.inj hqe).2; subst hqe
          have hb7 := of_eq_false (beq7_f h7)
          repeat' (first
            | (with_reducible first | refine r_seq ?_ | refine r_block ?_ | refine fork_not ?_ | refine fork_and ?_ | refine fork_or ?_ | refine chk_ok (by kernel_rfl) ?_)
            | ((with_reducible first | refine fork_dec ?_ ?_ | refine fork_eq ?_ ?_ | refine fork_ne ?_ ?_ | refine fork_intro ?_ ?_) <;> intro h <;> try (exfalso; first | omega | exact h rfl | (revert h; decide) | (cases h; done)))
            | ((with_reducible show False); omega)
            | ((first | (with_reducible first | refine r_exit ?_ | refine r_skip ?_ | refine r_cond ?_ | refine r_region ?_ | show VX _ _ _ _ _ _ _ | show vstep _ _ _ _ _ | show vskip _ _ _ | show withV _ _) | ((with_reducible show endA _ _ _ _ _ _ _); simp -implicitDefEqProofs only [endA])); simp -dsimp -implicitDefEqProofs (maxSteps := 1000000) (disch := first | omega | (simp only [LN, laG, hsg, hsf, hsy, hgf, hfl, er, htk, hlen]; omega)) only [go_sem, Int.reduceToNat, Int.reducePow, Nat.reducePow, Int.reduceAdd, Int.reduceMul, Int.reduceSub, Int.reduceNeg, Nat.reduceAdd, Nat.reduceMul, Nat.reduceSub, Nat.reduceEqDiff, Nat.reduceLT, Nat.reduceLeDiff, laG, hsg, hsf, hsy, hgf, hfl, er, htk, hlen])
            | ((first | (with_reducible refine r_ret ?_) | (with_reducible refine pick_viewG default (by first | omega | (simp only [LN, laG, hsg, hsf, hsy, hgf, hfl, er, htk, hlen]; omega)) (by first | omega | (simp only [LN, laG, hsg, hsf, hsy, hgf, hfl, er, htk, hlen]; omega)) ?_) | (with_reducible refine pick_own default (by first | omega | (simp only [LN, laG, hsg, hsf, hsy, hgf, hfl, er, htk, hlen]; omega)) ?_) | (with_reducible refine And.intro (by first | decide | omega | assumption | (simp only [LN, laG, hsg, hsf, hsy, hgf, hfl, er, htk, hlen]; omega)) ?_) | ((with_reducible apply callK_pure); (exact cf)) | ((with_reducible apply callF_lend); (exact cf); rfl) | ((with_reducible apply callF_go); (exact cf)) | ((with_reducible show pickE _ _ _); first | refine pickE_intro _ ⟨by omega, by rfl⟩ ?_ | refine pickE_intro _ (by rfl) ?_) | fail); try simp -dsimp -implicitDefEqProofs (maxSteps := 1000000) (disch := first | omega | (simp only [LN, laG, hsg, hsf, hsy, hgf, hfl, er, htk, hlen]; omega)) only [go_sem, Int.reduceToNat, Int.reducePow, Nat.reducePow, Int.reduceAdd, Int.reduceMul, Int.reduceSub, Int.reduceNeg, Nat.reduceAdd, Nat.reduceMul, Nat.reduceSub, Nat.reduceEqDiff, Nat.reduceLT, Nat.reduceLeDiff, laG, hsg, hsf, hsy, hgf, hfl, er, htk, hlen])
            | fail)
          all_goals first | rfl | omega | contradiction | trace_state
    · obtain rfl : f = y.fs.length := by omega
      have er := convR_0 hlen hf2
      exfalso; rw [er] at hq; exact hq0 (Prod.mk.inj hq).2.symm
end Go.Proofs.YtlkffmmgcoiniaaDoor
