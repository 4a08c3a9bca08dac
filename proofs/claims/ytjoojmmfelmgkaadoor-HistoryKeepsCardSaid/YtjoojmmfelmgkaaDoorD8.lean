/- Contracts of functions of this program, and the plain facts that they rest on. No conditions. -/
import Derived.Test.YtjoojmmfelmgkaaDoorD7
set_option linter.unusedSimpArgs false
set_option linter.unusedVariables false
namespace Go.Proofs.YtjoojmmfelmgkaaDoor
open Go Go.Ab
attribute [local irreducible] callK callF loopQ vstep vskip pickE hideP
set_option maxRecDepth 100000
attribute [local go_sem] eC rC eE hc hP hW oW oP sR oH newC eT eU
attribute [local irreducible] numL kindL argT evsT beginH boolL kinds args3
theorem wk8 {k : Int} (h : 1 ≤ k ∧ k ≤ 9) : IntKind.u8.wrap (k - 1) = k - 1 := by rw [IntKind.wrap_u8]; omega
theorem kindL_e (k : Int) : kinds.getD (k - 1).toNat default = kindL k := by unfold kindL; rfl
theorem beginH_e (c : C) : beginH c = [98, 101, 103, 105, 110, 32] ++ numL c.th ++ [32] ++ kindL c.k := by unfold beginH; rfl
theorem evsT0 (x : H) : evsT x 0 = [] := by unfold evsT; rfl
theorem evsT1 (x : H) (i : Nat) : evsT x (i + 1) = evsT x i ++ (evT x (x.ev.getD i default) ++ [10]) := by rw [evsT_s]
theorem argT0 (l : List Int) : argT l 0 = [] := by unfold argT; rfl
theorem kl : kinds.length = 9 := kinds_len
set_option maxRecDepth 100000 in
set_option maxHeartbeats 4000000 in
theorem c23 (x : H) (hne : x.ev.length ≠ 0) (hn : x.ev.length ≤ 100000) (hl : x.cl.length ≤ 100000) (hr : ∀ j, j < x.cl.length → RngI (gc x j)) (hk3 : ∀ i, i < x.ev.length → (x.ev.getD i default).1 = 1 ∨ (x.ev.getD i default).1 = 2 ∨ (x.ev.getD i default).1 = 3) (he : ∀ i, ((x.ev.getD i default).1 = 1 ∨ (x.ev.getD i default).1 = 2) → 0 ≤ (x.ev.getD i default).2 ∧ (x.ev.getD i default).2 < x.cl.length ∧ (x.ev.getD i default).2 ≤ 1000000) : PCalls Tryd.prog 23 [hP x] (.v (.string (bs (textM x)))) := by
  refine pcalls_facts ⟨_, rfl, rfl, by decide⟩ fun hf => ?_
  simp only [go_sem, big] at hf
  refine pcalls_of (E := E) (fn := Tryd.f23) 106 [.tmp 2] rfl rfl rfl rfl (by decide) rfl ?_
  repeat' (first
    | (with_reducible first | refine r_seq ?_ | refine r_block ?_ | refine fork_not ?_ | refine fork_and ?_ | refine fork_or ?_ | refine chk_ok (by kernel_rfl) ?_)
    | ((with_reducible first | refine fork_dec ?_ ?_ | refine fork_eq ?_ ?_ | refine fork_ne ?_ ?_ | refine fork_intro ?_ ?_) <;> intro h)
    | ((with_reducible show False); omega)
    | ((first | (with_reducible first | refine r_exit ?_ | refine r_skip ?_ | refine r_cond ?_ | refine r_region ?_ | show VX _ _ _ _ _ _ _ | show vstep _ _ _ _ _ | show vskip _ _ _ | show withV _ _) | ((with_reducible show endA _ _ _ _ _ _ _); simp -implicitDefEqProofs only [endA])); simp -dsimp -implicitDefEqProofs (maxSteps := 1000000) (disch := first | omega | (simp only [LN]; omega)) only [go_sem, Int.reduceToNat, Int.reducePow, Nat.reducePow, Int.reduceAdd, Int.reduceMul, Int.reduceSub, Int.reduceNeg, Nat.reduceAdd, Nat.reduceMul, Nat.reduceSub, Nat.reduceEqDiff, Nat.reduceLT, Nat.reduceLeDiff])
    | ((first | (with_reducible refine r_ret ?_) | (with_reducible refine pick_viewG default (by first | omega | (simp only [LN]; omega)) (by first | omega | (simp only [LN]; omega)) ?_) | (with_reducible refine pick_own default (by first | omega | (simp only [LN]; omega)) ?_) | (with_reducible refine And.intro (by first | decide | omega | assumption | (simp only [LN]; omega)) ?_) | ((with_reducible apply callK_pure); (exact c32)) | ((with_reducible apply callF_lend); (exact c32); rfl) | ((with_reducible apply callF_go); (exact c32)) | ((with_reducible show pickE _ _ _); first | refine pickE_intro _ ⟨by omega, by rfl⟩ ?_ | refine pickE_intro _ (by rfl) ?_) | fail); try simp -dsimp -implicitDefEqProofs (maxSteps := 1000000) (disch := first | omega | (simp only [LN]; omega)) only [go_sem, Int.reduceToNat, Int.reducePow, Nat.reducePow, Int.reduceAdd, Int.reduceMul, Int.reduceSub, Int.reduceNeg, Nat.reduceAdd, Nat.reduceMul, Nat.reduceSub, Nat.reduceEqDiff, Nat.reduceLT, Nat.reduceLeDiff])
    | fail)
  refine r_loopA (α := Nat) [0, 3, 4, 17, 18] (fun i b => [(19, aI i)]) (fun i b => [(4, .bld 87 (.sl b 1 0 (evsT x i).length))]) (fun i => [.byt 5 (evsT x i)]) (fun i => i ≤ x.ev.length) (fun i => x.ev.length - i) (0) ?h0_1 ?hs0_1 ?I_1 ?hI_1 ?round_1
  case hI_1 => intro x; (simp -dsimp -implicitDefEqProofs (maxSteps := 1000000) (disch := first | omega | (simp only [LN]; omega)) only [go_sem, Int.reduceToNat, Int.reducePow, Nat.reducePow, Int.reduceAdd, Int.reduceMul, Int.reduceSub, Int.reduceNeg, Nat.reduceAdd, Nat.reduceMul, Nat.reduceSub, Nat.reduceEqDiff, Nat.reduceLT, Nat.reduceLeDiff]) <;> exact rfl
  case hs0_1 => refine wk_auto ?_; (simp -dsimp -implicitDefEqProofs (maxSteps := 1000000) (disch := first | omega | (simp only [LN, evsT0, List.length_nil]; omega)) only [go_sem, Int.reduceToNat, Int.reducePow, Nat.reducePow, Int.reduceAdd, Int.reduceMul, Int.reduceSub, Int.reduceNeg, Nat.reduceAdd, Nat.reduceMul, Nat.reduceSub, Nat.reduceEqDiff, Nat.reduceLT, Nat.reduceLeDiff, evsT0, List.length_nil]) <;> (try omega)
  case h0_1 => exact Nat.zero_le _
  case round_1 =>
    intro i h1
    have hlen := evsT_len hr he i
    by_cases hi : i < x.ev.length
    · have hE := he i
      have hK := hk3 i hi
      have hs := evsT1 x i
      obtain ⟨e, hee⟩ : ∃ e, x.ev.getD i default = e := ⟨_, rfl⟩
      obtain ⟨c, hcc⟩ : ∃ c, x.cl.getD e.2.toNat default = c := ⟨_, rfl⟩
      have hR := hr e.2.toNat
      rw [hee] at hE hK hs
      rw [show gc x e.2.toNat = c from hcc] at hR
      rcases hK with h0 | h0 | h0
      · have hE := hE (.inl h0)
        have hev : evT x e = beginH c ++ argT (args3 c) 3 := by unfold evT; rw [if_pos h0, hcc]; rfl
        rw [hev] at hs
        have hR := hR (by omega)
        have hB := beginH_len hR
        have hA := argT_len hR
        have hA2 := args3_rng hR
        have hR2 := hR
        unfold RngI at hR2
        have hnt := numL_len (n := c.th) (by omega)
        have hkt := kindL_len hR2.2.1
        have hw := wk8 hR2.2.1
        have hb := beginH_e c
        repeat' (first
          | (with_reducible first | refine r_seq ?_ | refine r_block ?_ | refine fork_not ?_ | refine fork_and ?_ | refine fork_or ?_ | refine chk_ok (by kernel_rfl) ?_)
          | ((with_reducible first | refine fork_dec ?_ ?_ | refine fork_eq ?_ ?_ | refine fork_ne ?_ ?_ | refine fork_intro ?_ ?_) <;> intro h <;> try (exfalso; first | omega | exact h rfl | (revert h; decide) | (cases h; done)))
          | ((with_reducible show False); omega)
          | ((first | (with_reducible first | refine r_exit ?_ | refine r_skip ?_ | refine r_cond ?_ | refine r_region ?_ | show VX _ _ _ _ _ _ _ | show vstep _ _ _ _ _ | show vskip _ _ _ | show withV _ _) | ((with_reducible show endA _ _ _ _ _ _ _); simp -implicitDefEqProofs only [endA])); simp -dsimp -implicitDefEqProofs (maxSteps := 1000000) (disch := first | omega | (simp only [LN, hee, hcc, hw, kindL_e, kl]; omega)) only [go_sem, Int.reduceToNat, Int.reducePow, Nat.reducePow, Int.reduceAdd, Int.reduceMul, Int.reduceSub, Int.reduceNeg, Nat.reduceAdd, Nat.reduceMul, Nat.reduceSub, Nat.reduceEqDiff, Nat.reduceLT, Nat.reduceLeDiff, hee, hcc, hw, kindL_e, kl])
          | ((first | (with_reducible refine r_ret ?_) | (with_reducible refine pick_viewG default (by first | omega | (simp only [LN, hee, hcc, hw, kindL_e, kl]; omega)) (by first | omega | (simp only [LN, hee, hcc, hw, kindL_e, kl]; omega)) ?_) | (with_reducible refine pick_own default (by first | omega | (simp only [LN, hee, hcc, hw, kindL_e, kl]; omega)) ?_) | (with_reducible refine And.intro (by first | decide | omega | assumption | (simp only [LN, hee, hcc, hw, kindL_e, kl]; omega)) ?_) | ((with_reducible apply callK_pure); (exact c34 c.th (by omega))) | ((with_reducible apply callF_lend); (exact c34 c.th (by omega)); rfl) | ((with_reducible apply callF_go); (exact c34 c.th (by omega))) | (with_reducible first | apply callK_lent | apply callF_lent | apply hideP_own) | ((with_reducible apply callA_go); (first | exact d33 _ _ _ (by (try simp only [List.length_append, List.length_cons, List.length_nil]) <;> omega) (by (try simp only [List.length_append, List.length_cons, List.length_nil]) <;> omega) (by (try simp only [List.length_append, List.length_cons, List.length_nil]) <;> omega) | fail)) | ((with_reducible show pickE _ _ _); first | refine pickE_intro _ ⟨by omega, by rfl⟩ ?_ | refine pickE_intro _ (by rfl) ?_) | fail); try simp -dsimp -implicitDefEqProofs (maxSteps := 1000000) (disch := first | omega | (simp only [LN, hee, hcc, hw, kindL_e, kl]; omega)) only [go_sem, Int.reduceToNat, Int.reducePow, Nat.reducePow, Int.reduceAdd, Int.reduceMul, Int.reduceSub, Int.reduceNeg, Nat.reduceAdd, Nat.reduceMul, Nat.reduceSub, Nat.reduceEqDiff, Nat.reduceLT, Nat.reduceLeDiff, hee, hcc, hw, kindL_e, kl])
          | fail)
        refine r_loopA (α := Nat) [0, 3, 4, 17, 18, 19, 58, 59] (fun j b => [(60, aI j)]) (fun j b => [(4, .bld 87 (.sl b 1 0 (evsT x i ++ (beginH c ++ argT (args3 c) j)).length)), (58, .arr 1 ((args3 c).map eU))]) (fun j => [.byt 5 (evsT x i ++ (beginH c ++ argT (args3 c) j))]) (fun j => j ≤ 3) (fun j => 3 - j) (0) ?h0_2 ?hs0_2 ?I_2 ?hI_2 ?round_2
        case hI_2 => intro x; (simp -dsimp -implicitDefEqProofs (maxSteps := 1000000) (disch := first | omega | (simp only [LN]; omega)) only [go_sem, Int.reduceToNat, Int.reducePow, Nat.reducePow, Int.reduceAdd, Int.reduceMul, Int.reduceSub, Int.reduceNeg, Nat.reduceAdd, Nat.reduceMul, Nat.reduceSub, Nat.reduceEqDiff, Nat.reduceLT, Nat.reduceLeDiff]) <;> exact rfl
        case hs0_2 => refine wk_auto ?_; (simp -dsimp -implicitDefEqProofs (maxSteps := 1000000) (disch := first | omega | (simp only [LN, hb, argT0, args3_map, List.append_nil, List.append_assoc, List.cons_append, List.nil_append, List.length_append, List.length_cons, List.length_nil]; omega)) only [go_sem, Int.reduceToNat, Int.reducePow, Nat.reducePow, Int.reduceAdd, Int.reduceMul, Int.reduceSub, Int.reduceNeg, Nat.reduceAdd, Nat.reduceMul, Nat.reduceSub, Nat.reduceEqDiff, Nat.reduceLT, Nat.reduceLeDiff, hb, argT0, args3_map, List.append_nil, List.append_assoc, List.cons_append, List.nil_append, List.length_append, List.length_cons, List.length_nil]) <;> (try omega)
        case h0_2 => exact Nat.zero_le _
        case round_2 =>
          intro j hj
          have hAj := hA j
          have hvj := hA2 j
          have hnj := numL_len (n := (args3 c).getD j default) (by omega)
          repeat' (first
            | (with_reducible first | refine r_seq ?_ | refine r_block ?_ | refine fork_not ?_ | refine fork_and ?_ | refine fork_or ?_ | refine chk_ok (by kernel_rfl) ?_)
            | ((with_reducible first | refine fork_dec ?_ ?_ | refine fork_eq ?_ ?_ | refine fork_ne ?_ ?_ | refine fork_intro ?_ ?_) <;> intro h)
            | ((with_reducible show False); omega)
            | ((first | (with_reducible first | refine r_exit ?_ | refine r_skip ?_ | refine r_cond ?_ | refine r_region ?_ | show VX _ _ _ _ _ _ _ | show vstep _ _ _ _ _ | show vskip _ _ _ | show withV _ _) | ((with_reducible show endA _ _ _ _ _ _ _); simp -implicitDefEqProofs only [endA])); simp -dsimp -implicitDefEqProofs (maxSteps := 1000000) (disch := first | omega | (simp only [LN, args3_len]; omega)) only [go_sem, Int.reduceToNat, Int.reducePow, Nat.reducePow, Int.reduceAdd, Int.reduceMul, Int.reduceSub, Int.reduceNeg, Nat.reduceAdd, Nat.reduceMul, Nat.reduceSub, Nat.reduceEqDiff, Nat.reduceLT, Nat.reduceLeDiff, args3_len])
            | ((first | (with_reducible refine r_ret ?_) | (with_reducible refine pick_viewG default (by first | omega | (simp only [LN, args3_len]; omega)) (by first | omega | (simp only [LN, args3_len]; omega)) ?_) | (with_reducible refine pick_own default (by first | omega | (simp only [LN, args3_len]; omega)) ?_) | (with_reducible refine And.intro (by first | decide | omega | assumption | (simp only [LN, args3_len]; omega)) ?_) | ((with_reducible apply callK_pure); (exact c35 _ hvj)) | ((with_reducible apply callF_lend); (exact c35 _ hvj); rfl) | ((with_reducible apply callF_go); (exact c35 _ hvj)) | (with_reducible first | apply callK_lent | apply callF_lent | apply hideP_own) | ((with_reducible apply callA_go); (first | exact d33 _ _ _ (by (try simp only [List.length_append, List.length_cons, List.length_nil]) <;> omega) (by (try simp only [List.length_append, List.length_cons, List.length_nil]) <;> omega) (by (try simp only [List.length_append, List.length_cons, List.length_nil]) <;> omega) | fail)) | ((with_reducible show pickE _ _ _); first | refine pickE_intro _ ⟨by omega, by rfl⟩ ?_ | refine pickE_intro _ (by rfl) ?_) | fail); try simp -dsimp -implicitDefEqProofs (maxSteps := 1000000) (disch := first | omega | (simp only [LN, args3_len]; omega)) only [go_sem, Int.reduceToNat, Int.reducePow, Nat.reducePow, Int.reduceAdd, Int.reduceMul, Int.reduceSub, Int.reduceNeg, Nat.reduceAdd, Nat.reduceMul, Nat.reduceSub, Nat.reduceEqDiff, Nat.reduceLT, Nat.reduceLeDiff, args3_len])
            | fail)
          · (refine loopQ_next (j + 1) ?_ ?_ ?_; (omega); (show _ < _; omega); (simp -dsimp -implicitDefEqProofs (maxSteps := 1000000) (disch := first | omega | (simp only [LN, argT_s, List.append_nil, List.append_assoc, List.cons_append, List.nil_append, List.length_append, List.length_cons, List.length_nil]; omega)) only [go_sem, Int.reduceToNat, Int.reducePow, Nat.reducePow, Int.reduceAdd, Int.reduceMul, Int.reduceSub, Int.reduceNeg, Nat.reduceAdd, Nat.reduceMul, Nat.reduceSub, Nat.reduceEqDiff, Nat.reduceLT, Nat.reduceLeDiff, argT_s, List.append_nil, List.append_assoc, List.cons_append, List.nil_append, List.length_append, List.length_cons, List.length_nil]; try trivial))
            all_goals (first | omega | trace_state)
          · obtain rfl : j = 3 := by omega
            (refine loopQ_next (i + 1) ?_ ?_ ?_; (omega); (show _ < _; omega); (simp -dsimp -implicitDefEqProofs (maxSteps := 1000000) (disch := first | omega | (simp only [LN, hs, List.append_nil, List.append_assoc, List.cons_append, List.nil_append, List.length_append, List.length_cons, List.length_nil]; omega)) only [go_sem, Int.reduceToNat, Int.reducePow, Nat.reducePow, Int.reduceAdd, Int.reduceMul, Int.reduceSub, Int.reduceNeg, Nat.reduceAdd, Nat.reduceMul, Nat.reduceSub, Nat.reduceEqDiff, Nat.reduceLT, Nat.reduceLeDiff, hs, List.append_nil, List.append_assoc, List.cons_append, List.nil_append, List.length_append, List.length_cons, List.length_nil]; try trivial))
            all_goals (first | omega | trace_state)
      · have hE := hE (.inr h0)
        have hR := hR (by omega)
        have hR2 := hR
        unfold RngI at hR2
        have hev : evT x e = endT e.2 c.rv c.ok c.code := by unfold evT; rw [if_neg (by omega), if_pos h0, hcc]
        rw [hev] at hs
        unfold endT at hs
        have h5 := numL_len (n := e.2) (by omega)
        have h6 := numL_len (n := c.rv) (by omega)
        have h7 := numL_len (n := c.code) (by omega)
        have h8 := boolL_len c.ok
        repeat' (first
          | (with_reducible first | refine r_seq ?_ | refine r_block ?_ | refine fork_not ?_ | refine fork_and ?_ | refine fork_or ?_ | refine chk_ok (by kernel_rfl) ?_)
          | ((with_reducible first | refine fork_dec ?_ ?_ | refine fork_eq ?_ ?_ | refine fork_ne ?_ ?_ | refine fork_intro ?_ ?_) <;> intro h <;> try (exfalso; first | omega | exact h rfl | (revert h; decide) | (cases h; done)))
          | ((with_reducible show False); omega)
          | ((first | (with_reducible first | refine r_exit ?_ | refine r_skip ?_ | refine r_cond ?_ | refine r_region ?_ | show VX _ _ _ _ _ _ _ | show vstep _ _ _ _ _ | show vskip _ _ _ | show withV _ _) | ((with_reducible show endA _ _ _ _ _ _ _); simp -implicitDefEqProofs only [endA])); simp -dsimp -implicitDefEqProofs (maxSteps := 1000000) (disch := first | omega | (simp only [LN, hee, hcc]; omega)) only [go_sem, Int.reduceToNat, Int.reducePow, Nat.reducePow, Int.reduceAdd, Int.reduceMul, Int.reduceSub, Int.reduceNeg, Nat.reduceAdd, Nat.reduceMul, Nat.reduceSub, Nat.reduceEqDiff, Nat.reduceLT, Nat.reduceLeDiff, hee, hcc])
          | ((first | (with_reducible refine r_ret ?_) | (with_reducible refine pick_viewG default (by first | omega | (simp only [LN, hee, hcc]; omega)) (by first | omega | (simp only [LN, hee, hcc]; omega)) ?_) | (with_reducible refine pick_own default (by first | omega | (simp only [LN, hee, hcc]; omega)) ?_) | (with_reducible refine And.intro (by first | decide | omega | assumption | (simp only [LN, hee, hcc]; omega)) ?_) | ((with_reducible apply callK_pure); (first | exact c34 e.2 (by omega) | exact c35 c.rv (by omega) | exact c36 c.ok | exact c34 c.code (by omega) | fail)) | ((with_reducible apply callF_lend); (first | exact c34 e.2 (by omega) | exact c35 c.rv (by omega) | exact c36 c.ok | exact c34 c.code (by omega) | fail); rfl) | ((with_reducible apply callF_go); (first | exact c34 e.2 (by omega) | exact c35 c.rv (by omega) | exact c36 c.ok | exact c34 c.code (by omega) | fail)) | (with_reducible first | apply callK_lent | apply callF_lent | apply hideP_own) | ((with_reducible apply callA_go); (first | exact d33 _ _ _ (by (try simp only [List.length_append, List.length_cons, List.length_nil]) <;> omega) (by (try simp only [List.length_append, List.length_cons, List.length_nil]) <;> omega) (by (try simp only [List.length_append, List.length_cons, List.length_nil]) <;> omega) | fail)) | ((with_reducible show pickE _ _ _); first | refine pickE_intro _ ⟨by omega, by rfl⟩ ?_ | refine pickE_intro _ (by rfl) ?_) | fail); try simp -dsimp -implicitDefEqProofs (maxSteps := 1000000) (disch := first | omega | (simp only [LN, hee, hcc]; omega)) only [go_sem, Int.reduceToNat, Int.reducePow, Nat.reducePow, Int.reduceAdd, Int.reduceMul, Int.reduceSub, Int.reduceNeg, Nat.reduceAdd, Nat.reduceMul, Nat.reduceSub, Nat.reduceEqDiff, Nat.reduceLT, Nat.reduceLeDiff, hee, hcc])
          | fail)
        (refine loopQ_next (i + 1) ?_ ?_ ?_; (omega); (show _ < _; omega); (simp -dsimp -implicitDefEqProofs (maxSteps := 1000000) (disch := first | omega | (simp only [LN, hs, List.append_nil, List.append_assoc, List.cons_append, List.nil_append, List.length_append, List.length_cons, List.length_nil]; omega)) only [go_sem, Int.reduceToNat, Int.reducePow, Nat.reducePow, Int.reduceAdd, Int.reduceMul, Int.reduceSub, Int.reduceNeg, Nat.reduceAdd, Nat.reduceMul, Nat.reduceSub, Nat.reduceEqDiff, Nat.reduceLT, Nat.reduceLeDiff, hs, List.append_nil, List.append_assoc, List.cons_append, List.nil_append, List.length_append, List.length_cons, List.length_nil]; try trivial))
        all_goals (first | omega | trace_state)
      · have hev : evT x e = crashT := by unfold evT; rw [if_neg (by omega), if_neg (by omega)]
        rw [hev] at hs
        unfold crashT at hs
        repeat' (first
          | (with_reducible first | refine r_seq ?_ | refine r_block ?_ | refine fork_not ?_ | refine fork_and ?_ | refine fork_or ?_ | refine chk_ok (by kernel_rfl) ?_)
          | ((with_reducible first | refine fork_dec ?_ ?_ | refine fork_eq ?_ ?_ | refine fork_ne ?_ ?_ | refine fork_intro ?_ ?_) <;> intro h <;> try (exfalso; first | omega | exact h rfl | (revert h; decide) | (cases h; done)))
          | ((with_reducible show False); omega)
          | ((first | (with_reducible first | refine r_exit ?_ | refine r_skip ?_ | refine r_cond ?_ | refine r_region ?_ | show VX _ _ _ _ _ _ _ | show vstep _ _ _ _ _ | show vskip _ _ _ | show withV _ _) | ((with_reducible show endA _ _ _ _ _ _ _); simp -implicitDefEqProofs only [endA])); simp -dsimp -implicitDefEqProofs (maxSteps := 1000000) (disch := first | omega | (simp only [LN, hee, hcc]; omega)) only [go_sem, Int.reduceToNat, Int.reducePow, Nat.reducePow, Int.reduceAdd, Int.reduceMul, Int.reduceSub, Int.reduceNeg, Nat.reduceAdd, Nat.reduceMul, Nat.reduceSub, Nat.reduceEqDiff, Nat.reduceLT, Nat.reduceLeDiff, hee, hcc])
          | ((first | (with_reducible refine r_ret ?_) | (with_reducible refine pick_viewG default (by first | omega | (simp only [LN, hee, hcc]; omega)) (by first | omega | (simp only [LN, hee, hcc]; omega)) ?_) | (with_reducible refine pick_own default (by first | omega | (simp only [LN, hee, hcc]; omega)) ?_) | (with_reducible refine And.intro (by first | decide | omega | assumption | (simp only [LN, hee, hcc]; omega)) ?_) | (with_reducible first | apply callK_lent | apply callF_lent | apply hideP_own) | ((with_reducible apply callA_go); (first | exact d33 _ _ _ (by (try simp only [List.length_append, List.length_cons, List.length_nil]) <;> omega) (by (try simp only [List.length_append, List.length_cons, List.length_nil]) <;> omega) (by (try simp only [List.length_append, List.length_cons, List.length_nil]) <;> omega) | fail)) | ((with_reducible show pickE _ _ _); first | refine pickE_intro _ ⟨by omega, by rfl⟩ ?_ | refine pickE_intro _ (by rfl) ?_) | fail); try simp -dsimp -implicitDefEqProofs (maxSteps := 1000000) (disch := first | omega | (simp only [LN, hee, hcc]; omega)) only [go_sem, Int.reduceToNat, Int.reducePow, Nat.reducePow, Int.reduceAdd, Int.reduceMul, Int.reduceSub, Int.reduceNeg, Nat.reduceAdd, Nat.reduceMul, Nat.reduceSub, Nat.reduceEqDiff, Nat.reduceLT, Nat.reduceLeDiff, hee, hcc])
          | fail)
        (refine loopQ_next (i + 1) ?_ ?_ ?_; (omega); (show _ < _; omega); (simp -dsimp -implicitDefEqProofs (maxSteps := 1000000) (disch := first | omega | (simp only [LN, hs, List.append_nil, List.append_assoc, List.cons_append, List.nil_append, List.length_append, List.length_cons, List.length_nil]; omega)) only [go_sem, Int.reduceToNat, Int.reducePow, Nat.reducePow, Int.reduceAdd, Int.reduceMul, Int.reduceSub, Int.reduceNeg, Nat.reduceAdd, Nat.reduceMul, Nat.reduceSub, Nat.reduceEqDiff, Nat.reduceLT, Nat.reduceLeDiff, hs, List.append_nil, List.append_assoc, List.cons_append, List.nil_append, List.length_append, List.length_cons, List.length_nil]; try trivial))
        all_goals (first | omega | trace_state)
    · have hp := evsT_pos x i (by omega)
      repeat' (first
        | (with_reducible first | refine r_seq ?_ | refine r_block ?_ | refine fork_not ?_ | refine fork_and ?_ | refine fork_or ?_ | refine chk_ok (by kernel_rfl) ?_)
        | ((with_reducible first | refine fork_dec ?_ ?_ | refine fork_eq ?_ ?_ | refine fork_ne ?_ ?_ | refine fork_intro ?_ ?_) <;> intro h <;> try (exfalso; first | omega | exact h rfl | (revert h; decide) | (cases h; done)))
        | ((with_reducible show False); omega)
        | ((first | (with_reducible first | refine r_exit ?_ | refine r_skip ?_ | refine r_cond ?_ | refine r_region ?_ | show VX _ _ _ _ _ _ _ | show vstep _ _ _ _ _ | show vskip _ _ _ | show withV _ _) | ((with_reducible show endA _ _ _ _ _ _ _); simp -implicitDefEqProofs only [endA])); simp -dsimp -implicitDefEqProofs (maxSteps := 1000000) (disch := first | omega | (simp only [LN]; omega)) only [go_sem, Int.reduceToNat, Int.reducePow, Nat.reducePow, Int.reduceAdd, Int.reduceMul, Int.reduceSub, Int.reduceNeg, Nat.reduceAdd, Nat.reduceMul, Nat.reduceSub, Nat.reduceEqDiff, Nat.reduceLT, Nat.reduceLeDiff])
        | ((first | (with_reducible refine r_ret ?_) | (with_reducible refine pick_viewG default (by first | omega | (simp only [LN]; omega)) (by first | omega | (simp only [LN]; omega)) ?_) | (with_reducible refine pick_own default (by first | omega | (simp only [LN]; omega)) ?_) | (with_reducible refine And.intro (by first | decide | omega | assumption | (simp only [LN]; omega)) ?_) | (with_reducible first | apply callK_lent | apply callF_lent | apply hideP_own) | ((with_reducible apply callA_go); (first | exact d37 _ _ (by (try simp only [List.length_append, List.length_cons, List.length_nil]) <;> omega) (by (try simp only [List.length_append, List.length_cons, List.length_nil]) <;> omega) | fail)) | ((with_reducible show pickE _ _ _); first | refine pickE_intro _ ⟨by omega, by rfl⟩ ?_ | refine pickE_intro _ (by rfl) ?_) | fail); try simp -dsimp -implicitDefEqProofs (maxSteps := 1000000) (disch := first | omega | (simp only [LN]; omega)) only [go_sem, Int.reduceToNat, Int.reducePow, Nat.reducePow, Int.reduceAdd, Int.reduceMul, Int.reduceSub, Int.reduceNeg, Nat.reduceAdd, Nat.reduceMul, Nat.reduceSub, Nat.reduceEqDiff, Nat.reduceLT, Nat.reduceLeDiff])
        | fail)
      all_goals (unfold textM; rw [show i = x.ev.length by omega])
end Go.Proofs.YtjoojmmfelmgkaaDoor
