/- Contracts of functions of this program, and the plain facts that they rest on. No conditions. -/
import Derived.Test.YtjoojmmfelmgkaaDoorD19
import Derived.Test.YtjoojmmfelmgkaaDoorAc4

set_option linter.unusedSimpArgs false
set_option linter.unusedVariables false
namespace Go.Proofs.YtjoojmmfelmgkaaDoor
open Go Go.Ab
attribute [local irreducible] callK callF loopQ vstep vskip pickE hideP
set_option maxRecDepth 100000
theorem d37e : ACalls Tryd.prog 37 [.loc 0 0] [.bld 87 (.p (.v (.slice none 0 0)))] (.p (.v (.string ⟨#[]⟩))) [.bld 87 (.p (.v (.slice none 0 0)))] :=
  ac_string0 (P := Tryd.prog) (f := 37) ⟨_, rfl, rfl, by decide⟩ (fun b p w h => b_string0 Tryd.lays169 Tryd.Builder_Extra_169 b p w h)
attribute [local go_sem] eC rC eE hc hP hW hX oW oP sR oH newC eS eT
set_option maxRecDepth 100000 in
set_option maxHeartbeats 4000000 in
theorem c23e (x : H) (h0 : x.ev.length = 0) : PCalls Tryd.prog 23 [hP x] (.v (.string ⟨#[]⟩)) := by
  refine pcalls_facts ⟨_, rfl, rfl, by decide⟩ fun hf => ?_
  simp only [go_sem, big] at hf
  refine pcalls_of (E := E) (fn := Tryd.f23) 106 [.tmp 2] rfl rfl rfl rfl (by decide) rfl ?_
  repeat' (first
    | (with_reducible first | refine r_seq ?_ | refine r_block ?_ | refine fork_not ?_ | refine fork_and ?_ | refine fork_or ?_ | refine chk_ok (by kernel_rfl) ?_)
    | ((with_reducible first | refine fork_dec ?_ ?_ | refine fork_eq ?_ ?_ | refine fork_ne ?_ ?_ | refine fork_intro ?_ ?_) <;> intro h)
    | ((with_reducible show False); omega)
    | ((first | (with_reducible first | refine r_exit ?_ | refine r_skip ?_ | refine r_cond ?_ | refine r_region ?_ | show VX _ _ _ _ _ _ _ | show vstep _ _ _ _ _ | show vskip _ _ _ | show withV _ _) | ((with_reducible show endA _ _ _ _ _ _ _); simp -implicitDefEqProofs only [endA])); simp -dsimp -implicitDefEqProofs (maxSteps := 1000000) (disch := first | omega | (simp only [LN]; omega)) only [go_sem, Int.reduceToNat, Int.reducePow, Nat.reducePow, Int.reduceAdd, Int.reduceMul, Int.reduceSub, Int.reduceNeg, Nat.reduceAdd, Nat.reduceMul, Nat.reduceSub, Nat.reduceEqDiff, Nat.reduceLT, Nat.reduceLeDiff])
    | ((first | (with_reducible refine r_ret ?_) | (with_reducible refine pick_viewG default (by first | omega | (simp only [LN]; omega)) (by first | omega | (simp only [LN]; omega)) ?_) | (with_reducible refine pick_own default (by first | omega | (simp only [LN]; omega)) ?_) | (with_reducible refine And.intro (by first | decide | omega | assumption | (simp only [LN]; omega)) ?_) | ((with_reducible apply callK_pure); (exact c32)) | ((with_reducible apply callF_lend); (exact c32); rfl) | ((with_reducible apply callF_go); (exact c32)) | ((with_reducible show pickE _ _ _); first | refine pickE_intro _ ⟨by omega, by rfl⟩ ?_ | refine pickE_intro _ (by rfl) ?_) | fail); try simp -dsimp -implicitDefEqProofs (maxSteps := 1000000) (disch := first | omega | (simp only [LN]; omega)) only [go_sem, Int.reduceToNat, Int.reducePow, Nat.reducePow, Int.reduceAdd, Int.reduceMul, Int.reduceSub, Int.reduceNeg, Nat.reduceAdd, Nat.reduceMul, Nat.reduceSub, Nat.reduceEqDiff, Nat.reduceLT, Nat.reduceLeDiff])
    | fail)
  refine r_loopA (α := Nat) [0, 3, 4, 17, 18] (fun i b => [(19, aI i)]) (fun i b => []) (fun i => []) (fun i => i ≤ 0) (fun i => 1 - i) (0) ?h0_1 ?hs0_1 ?I_1 ?hI_1 ?round_1
  case hI_1 => intro x; (simp -dsimp -implicitDefEqProofs (maxSteps := 1000000) (disch := first | omega | (simp only [LN]; omega)) only [go_sem, Int.reduceToNat, Int.reducePow, Nat.reducePow, Int.reduceAdd, Int.reduceMul, Int.reduceSub, Int.reduceNeg, Nat.reduceAdd, Nat.reduceMul, Nat.reduceSub, Nat.reduceEqDiff, Nat.reduceLT, Nat.reduceLeDiff]) <;> exact rfl
  case hs0_1 => refine wk_auto ?_; (simp -dsimp -implicitDefEqProofs (maxSteps := 1000000) (disch := first | omega | (simp only [LN]; omega)) only [go_sem, Int.reduceToNat, Int.reducePow, Nat.reducePow, Int.reduceAdd, Int.reduceMul, Int.reduceSub, Int.reduceNeg, Nat.reduceAdd, Nat.reduceMul, Nat.reduceSub, Nat.reduceEqDiff, Nat.reduceLT, Nat.reduceLeDiff]) <;> (try omega)
  case h0_1 => omega
  case round_1 =>
    intro i hi
    repeat' (first
      | (with_reducible first | refine r_seq ?_ | refine r_block ?_ | refine fork_not ?_ | refine fork_and ?_ | refine fork_or ?_ | refine chk_ok (by kernel_rfl) ?_)
      | ((with_reducible first | refine fork_dec ?_ ?_ | refine fork_eq ?_ ?_ | refine fork_ne ?_ ?_ | refine fork_intro ?_ ?_) <;> intro h <;> try (exfalso; first | omega | exact h rfl | (revert h; decide) | (cases h; done)))
      | ((with_reducible show False); omega)
      | ((first | (with_reducible first | refine r_exit ?_ | refine r_skip ?_ | refine r_cond ?_ | refine r_region ?_ | show VX _ _ _ _ _ _ _ | show vstep _ _ _ _ _ | show vskip _ _ _ | show withV _ _) | ((with_reducible show endA _ _ _ _ _ _ _); simp -implicitDefEqProofs only [endA])); simp -dsimp -implicitDefEqProofs (maxSteps := 1000000) (disch := first | omega | (simp only [LN, h0]; omega)) only [go_sem, Int.reduceToNat, Int.reducePow, Nat.reducePow, Int.reduceAdd, Int.reduceMul, Int.reduceSub, Int.reduceNeg, Nat.reduceAdd, Nat.reduceMul, Nat.reduceSub, Nat.reduceEqDiff, Nat.reduceLT, Nat.reduceLeDiff, h0])
      | ((first | (with_reducible refine r_ret ?_) | (with_reducible refine pick_viewG default (by first | omega | (simp only [LN, h0]; omega)) (by first | omega | (simp only [LN, h0]; omega)) ?_) | (with_reducible refine pick_own default (by first | omega | (simp only [LN, h0]; omega)) ?_) | (with_reducible refine And.intro (by first | decide | omega | assumption | (simp only [LN, h0]; omega)) ?_) | (with_reducible first | apply callK_lent | apply callF_lent | apply hideP_own) | ((with_reducible apply callA_go); (first | exact d37e | fail)) | ((with_reducible show pickE _ _ _); first | refine pickE_intro _ ⟨by omega, by rfl⟩ ?_ | refine pickE_intro _ (by rfl) ?_) | fail); try simp -dsimp -implicitDefEqProofs (maxSteps := 1000000) (disch := first | omega | (simp only [LN, h0]; omega)) only [go_sem, Int.reduceToNat, Int.reducePow, Nat.reducePow, Int.reduceAdd, Int.reduceMul, Int.reduceSub, Int.reduceNeg, Nat.reduceAdd, Nat.reduceMul, Nat.reduceSub, Nat.reduceEqDiff, Nat.reduceLT, Nat.reduceLeDiff, h0])
      | fail)
    all_goals first | omega | rfl | trace_state
theorem ev_of {x : H} (hI : Inv x) (hl : x.cl.length ≤ 100000) : (∀ i, i < x.ev.length → (x.ev.getD i default).1 = 1 ∨ (x.ev.getD i default).1 = 2 ∨ (x.ev.getD i default).1 = 3) ∧ (∀ i, ((x.ev.getD i default).1 = 1 ∨ (x.ev.getD i default).1 = 2) → 0 ≤ (x.ev.getD i default).2 ∧ (x.ev.getD i default).2 < x.cl.length ∧ (x.ev.getD i default).2 ≤ 1000000) := by
  refine ⟨fun i hi => ?_, fun i hi => ?_⟩
  · rcases hI.evs i hi with ⟨j, g1, g2, _⟩ | ⟨j, g1, g2, _⟩ | ⟨g2, _⟩ <;> rw [g2] <;> simp
  · by_cases h : i < x.ev.length
    · rcases hI.evs i h with ⟨j, g1, g2, _⟩ | ⟨j, g1, g2, _⟩ | ⟨g2, _⟩
      · rw [g2]; dsimp only; omega
      · rw [g2]; dsimp only; omega
      · rw [g2] at hi; simp at hi
    · have : x.ev.getD i default = (0, 0) := by rw [List.getD_eq_getElem?_getD, List.getElem?_eq_none (by omega)]; rfl
      rw [this] at hi; simp at hi
theorem c23a (x : H) (hI : Inv x) (hr : ∀ j, j < x.cl.length → RngI (gc x j)) (hn : x.ev.length ≤ 100000) (hl : x.cl.length ≤ 100000) : PCalls Tryd.prog 23 [hP x] (.v (.string (bs (textM x)))) := by
  by_cases h : x.ev.length = 0
  · have := c23e x h
    rw [show textM x = [] by unfold textM; rw [h]; rfl]
    exact this
  · exact c23 x h hn hl hr (ev_of hI hl).1 (ev_of hI hl).2
/-- The line at a, as the reference finds it. -/
def lnR (x : H) (a : Nat) : Nat → List UInt8
  | 0 => crashT
  | i + 1 => if (gc x i).en = a then endT i (gc x i).rv (gc x i).ok (gc x i).code else if (gc x i).bg = a then beginT (gc x i) else lnR x a i
theorem lnR_0 (x : H) (a : Nat) : lnR x a 0 = [99, 114, 97, 115, 104] := rfl
theorem lnR_ev {x : H} (hI : Inv x) {a : Nat} (ha : a < x.ev.length) : lnR x a x.cl.length = evT x (x.ev.getD a default) := by
  rcases hI.evs a ha with ⟨i0, g1, g2, g3, g4⟩ | ⟨i0, g1, g2, g3, g4⟩ | ⟨g2, g4⟩
  · have key : ∀ i, i ≤ x.cl.length → lnR x a i = if i0 < i then beginT (gc x i0) else crashT := by
      intro i
      induction i with
      | zero => intro _; rfl
      | succ i ih =>
        intro hi
        have h4 := g4 i (by omega)
        rw [lnR, if_neg h4.2]
        by_cases hii : i = i0
        · subst hii; rw [if_pos g3, if_pos (by omega)]
        · rw [if_neg (h4.1 hii), ih (by omega)]
          by_cases h5 : i0 < i
          · rw [if_pos h5, if_pos (by omega)]
          · rw [if_neg h5, if_neg (by omega)]
    rw [key _ (Nat.le_refl _), if_pos g1, evT_1 g2]
  · have key : ∀ i, i ≤ x.cl.length → lnR x a i = if i0 < i then endT i0 (gc x i0).rv (gc x i0).ok (gc x i0).code else crashT := by
      intro i
      induction i with
      | zero => intro _; rfl
      | succ i ih =>
        intro hi
        have h4 := g4 i (by omega)
        by_cases hii : i = i0
        · subst hii; rw [lnR, if_pos g3, if_pos (by omega)]
        · rw [lnR, if_neg (h4.2 hii), if_neg h4.1, ih (by omega)]
          by_cases h5 : i0 < i
          · rw [if_pos h5, if_pos (by omega)]
          · rw [if_neg h5, if_neg (by omega)]
    rw [key _ (Nat.le_refl _), if_pos g1, evT_2 g2]
  · have key : ∀ i, i ≤ x.cl.length → lnR x a i = crashT := by
      intro i
      induction i with
      | zero => intro _; rfl
      | succ i ih =>
        intro hi
        have h4 := g4 i (by omega)
        rw [lnR, if_neg h4.2, if_neg h4.1, ih (by omega)]
    rw [key _ (Nat.le_refl _), evT_3 g2]
theorem lnR_len {x : H} (hr : ∀ j, j < x.cl.length → RngI (gc x j)) (hl : x.cl.length ≤ 100000) (a : Nat) : ∀ i, i ≤ x.cl.length → (lnR x a i).length ≤ 200
  | 0, _ => by rw [lnR_0]; decide
  | i + 1, h => by
    have h1 := hr i (by omega)
    have h2 := h1
    unfold RngI at h2
    rw [lnR]
    split
    · exact endT_len (by omega) h2.2.2.2.2.2.1 h2.2.2.2.2.2.2
    · split
      · exact beginT_len h1
      · exact lnR_len hr hl a i (by omega)
theorem crash_e : crashT = [99, 114, 97, 115, 104] := rfl
attribute [local irreducible] lnR evsT endT beginT
set_option maxRecDepth 100000 in
set_option maxHeartbeats 4000000 in
theorem c26 (x : H) (hI : Inv x) (hr : ∀ j, j < x.cl.length → RngI (gc x j)) (hn : x.ev.length ≤ 100000) (hl : x.cl.length ≤ 100000) : PCalls Tryd.prog 26 [hX x] (.v (.string (bs (textM x)))) := by
  refine pcalls_of (E := E) (fn := Tryd.f26) 42 [.tmp 2] rfl rfl rfl rfl (by decide) rfl ?_
  have hev := ev_of hI hl
  have hel := evsT_len hr hev.2
  repeat' (first
    | (with_reducible first | refine r_seq ?_ | refine r_block ?_ | refine fork_not ?_ | refine fork_and ?_ | refine fork_or ?_ | refine chk_ok (by kernel_rfl) ?_)
    | ((with_reducible first | refine fork_dec ?_ ?_ | refine fork_eq ?_ ?_ | refine fork_ne ?_ ?_ | refine fork_intro ?_ ?_) <;> intro h)
    | ((with_reducible show False); omega)
    | ((first | (with_reducible first | refine r_exit ?_ | refine r_skip ?_ | refine r_cond ?_ | refine r_region ?_ | show VX _ _ _ _ _ _ _ | show vstep _ _ _ _ _ | show vskip _ _ _ | show withV _ _) | ((with_reducible show endA _ _ _ _ _ _ _); simp -implicitDefEqProofs only [endA])); simp -dsimp -implicitDefEqProofs (maxSteps := 1000000) (disch := first | omega | (simp only [LN]; omega)) only [go_sem, Int.reduceToNat, Int.reducePow, Nat.reducePow, Int.reduceAdd, Int.reduceMul, Int.reduceSub, Int.reduceNeg, Nat.reduceAdd, Nat.reduceMul, Nat.reduceSub, Nat.reduceEqDiff, Nat.reduceLT, Nat.reduceLeDiff])
    | ((first | (with_reducible refine r_ret ?_) | (with_reducible refine pick_viewG default (by first | omega | (simp only [LN]; omega)) (by first | omega | (simp only [LN]; omega)) ?_) | (with_reducible refine pick_own default (by first | omega | (simp only [LN]; omega)) ?_) | (with_reducible refine And.intro (by first | decide | omega | assumption | (simp only [LN]; omega)) ?_) | ((with_reducible show pickE _ _ _); first | refine pickE_intro _ ⟨by omega, by rfl⟩ ?_ | refine pickE_intro _ (by rfl) ?_) | fail); try simp -dsimp -implicitDefEqProofs (maxSteps := 1000000) (disch := first | omega | (simp only [LN]; omega)) only [go_sem, Int.reduceToNat, Int.reducePow, Nat.reducePow, Int.reduceAdd, Int.reduceMul, Int.reduceSub, Int.reduceNeg, Nat.reduceAdd, Nat.reduceMul, Nat.reduceSub, Nat.reduceEqDiff, Nat.reduceLT, Nat.reduceLeDiff])
    | fail)
  refine r_loopA (α := Nat) [1] (fun a b => [(4, aI a), (3, .p (.v (.string (bs (evsT x a)))))]) (fun a b => []) (fun a => []) (fun a => a ≤ x.ev.length) (fun a => x.ev.length - a) (0) ?h0_2 ?hs0_2 ?I_2 ?hI_2 ?round_2
  case hI_2 => intro x; (simp -dsimp -implicitDefEqProofs (maxSteps := 1000000) (disch := first | omega | (simp only [LN]; omega)) only [go_sem, Int.reduceToNat, Int.reducePow, Nat.reducePow, Int.reduceAdd, Int.reduceMul, Int.reduceSub, Int.reduceNeg, Nat.reduceAdd, Nat.reduceMul, Nat.reduceSub, Nat.reduceEqDiff, Nat.reduceLT, Nat.reduceLeDiff]) <;> exact rfl
  case hs0_2 => refine wk_auto ?_; (simp -dsimp -implicitDefEqProofs (maxSteps := 1000000) (disch := first | omega | (simp only [LN, evsT0]; omega)) only [go_sem, Int.reduceToNat, Int.reducePow, Nat.reducePow, Int.reduceAdd, Int.reduceMul, Int.reduceSub, Int.reduceNeg, Nat.reduceAdd, Nat.reduceMul, Nat.reduceSub, Nat.reduceEqDiff, Nat.reduceLT, Nat.reduceLeDiff, evsT0]) <;> (try omega)
  case h0_2 => omega
  case round_2 =>
    intro a ha
    have hela := hel a
    repeat' (first
      | (with_reducible first | refine r_seq ?_ | refine r_block ?_ | refine fork_not ?_ | refine fork_and ?_ | refine fork_or ?_ | refine chk_ok (by kernel_rfl) ?_)
      | ((with_reducible first | refine fork_dec ?_ ?_ | refine fork_eq ?_ ?_ | refine fork_ne ?_ ?_ | refine fork_intro ?_ ?_) <;> intro h)
      | ((with_reducible show False); omega)
      | ((first | (with_reducible first | refine r_exit ?_ | refine r_skip ?_ | refine r_cond ?_ | refine r_region ?_ | show VX _ _ _ _ _ _ _ | show vstep _ _ _ _ _ | show vskip _ _ _ | show withV _ _) | ((with_reducible show endA _ _ _ _ _ _ _); simp -implicitDefEqProofs only [endA])); simp -dsimp -implicitDefEqProofs (maxSteps := 1000000) (disch := first | omega | (simp only [LN]; omega)) only [go_sem, Int.reduceToNat, Int.reducePow, Nat.reducePow, Int.reduceAdd, Int.reduceMul, Int.reduceSub, Int.reduceNeg, Nat.reduceAdd, Nat.reduceMul, Nat.reduceSub, Nat.reduceEqDiff, Nat.reduceLT, Nat.reduceLeDiff])
      | ((first | (with_reducible refine r_ret ?_) | (with_reducible refine pick_viewG default (by first | omega | (simp only [LN]; omega)) (by first | omega | (simp only [LN]; omega)) ?_) | (with_reducible refine pick_own default (by first | omega | (simp only [LN]; omega)) ?_) | (with_reducible refine And.intro (by first | decide | omega | assumption | (simp only [LN]; omega)) ?_) | ((with_reducible show pickE _ _ _); first | refine pickE_intro _ ⟨by omega, by rfl⟩ ?_ | refine pickE_intro _ (by rfl) ?_) | fail); try simp -dsimp -implicitDefEqProofs (maxSteps := 1000000) (disch := first | omega | (simp only [LN]; omega)) only [go_sem, Int.reduceToNat, Int.reducePow, Nat.reducePow, Int.reduceAdd, Int.reduceMul, Int.reduceSub, Int.reduceNeg, Nat.reduceAdd, Nat.reduceMul, Nat.reduceSub, Nat.reduceEqDiff, Nat.reduceLT, Nat.reduceLeDiff])
      | fail)
    · refine r_loopA (α := Nat) [1, 3, 4, 15, 16] (fun i b => [(17, aI i), (5, .p (.v (.string (bs (lnR x a i)))))]) (fun i b => []) (fun i => []) (fun i => i ≤ x.cl.length) (fun i => x.cl.length - i) (0) ?h0_3 ?hs0_3 ?I_3 ?hI_3 ?round_3
      case hI_3 => intro x; (simp -dsimp -implicitDefEqProofs (maxSteps := 1000000) (disch := first | omega | (simp only [LN]; omega)) only [go_sem, Int.reduceToNat, Int.reducePow, Nat.reducePow, Int.reduceAdd, Int.reduceMul, Int.reduceSub, Int.reduceNeg, Nat.reduceAdd, Nat.reduceMul, Nat.reduceSub, Nat.reduceEqDiff, Nat.reduceLT, Nat.reduceLeDiff]) <;> exact rfl
      case hs0_3 => refine wk_auto ?_; (simp -dsimp -implicitDefEqProofs (maxSteps := 1000000) (disch := first | omega | (simp only [LN, lnR_0]; omega)) only [go_sem, Int.reduceToNat, Int.reducePow, Nat.reducePow, Int.reduceAdd, Int.reduceMul, Int.reduceSub, Int.reduceNeg, Nat.reduceAdd, Nat.reduceMul, Nat.reduceSub, Nat.reduceEqDiff, Nat.reduceLT, Nat.reduceLeDiff, lnR_0]) <;> (try omega)
      case h0_3 => omega
      case round_3 =>
        intro i hi
        by_cases hlt : i < x.cl.length
        · have hR := hr i hlt
          have hR2 := hR
          unfold RngI at hR2
          by_cases he : (gc x i).en = a
          · have e : lnR x a (i + 1) = endT i (gc x i).rv (gc x i).ok (gc x i).code := by unfold lnR; rw [if_pos he]
            repeat' (first
              | (with_reducible first | refine r_seq ?_ | refine r_block ?_ | refine fork_not ?_ | refine fork_and ?_ | refine fork_or ?_ | refine chk_ok (by kernel_rfl) ?_)
              | ((with_reducible first | refine fork_dec ?_ ?_ | refine fork_eq ?_ ?_ | refine fork_ne ?_ ?_ | refine fork_intro ?_ ?_) <;> intro h <;> try (exfalso; first | omega | exact h rfl | (revert h; decide) | (cases h; done)))
              | ((with_reducible show False); omega)
              | ((first | (with_reducible first | refine r_exit ?_ | refine r_skip ?_ | refine r_cond ?_ | refine r_region ?_ | show VX _ _ _ _ _ _ _ | show vstep _ _ _ _ _ | show vskip _ _ _ | show withV _ _) | ((with_reducible show endA _ _ _ _ _ _ _); simp -implicitDefEqProofs only [endA])); simp -dsimp -implicitDefEqProofs (maxSteps := 1000000) (disch := first | omega | (simp only [LN]; omega)) only [go_sem, Int.reduceToNat, Int.reducePow, Nat.reducePow, Int.reduceAdd, Int.reduceMul, Int.reduceSub, Int.reduceNeg, Nat.reduceAdd, Nat.reduceMul, Nat.reduceSub, Nat.reduceEqDiff, Nat.reduceLT, Nat.reduceLeDiff])
              | ((first | (with_reducible refine r_ret ?_) | (with_reducible refine pick_viewG default (by first | omega | (simp only [LN]; omega)) (by first | omega | (simp only [LN]; omega)) ?_) | (with_reducible refine pick_own default (by first | omega | (simp only [LN]; omega)) ?_) | (with_reducible refine And.intro (by first | decide | omega | assumption | (simp only [LN]; omega)) ?_) | ((with_reducible apply callK_pure); (first | exact c40 (x.cl.getD i default) hR | exact c41 i (x.cl.getD i default).rv (x.cl.getD i default).ok (x.cl.getD i default).code (by omega) hR2.2.2.2.2.2.1 hR2.2.2.2.2.2.2 | fail)) | ((with_reducible apply callF_lend); (first | exact c40 (x.cl.getD i default) hR | exact c41 i (x.cl.getD i default).rv (x.cl.getD i default).ok (x.cl.getD i default).code (by omega) hR2.2.2.2.2.2.1 hR2.2.2.2.2.2.2 | fail); rfl) | ((with_reducible apply callF_go); (first | exact c40 (x.cl.getD i default) hR | exact c41 i (x.cl.getD i default).rv (x.cl.getD i default).ok (x.cl.getD i default).code (by omega) hR2.2.2.2.2.2.1 hR2.2.2.2.2.2.2 | fail)) | ((with_reducible show pickE _ _ _); first | refine pickE_intro _ ⟨by omega, by rfl⟩ ?_ | refine pickE_intro _ (by rfl) ?_) | fail); try simp -dsimp -implicitDefEqProofs (maxSteps := 1000000) (disch := first | omega | (simp only [LN]; omega)) only [go_sem, Int.reduceToNat, Int.reducePow, Nat.reducePow, Int.reduceAdd, Int.reduceMul, Int.reduceSub, Int.reduceNeg, Nat.reduceAdd, Nat.reduceMul, Nat.reduceSub, Nat.reduceEqDiff, Nat.reduceLT, Nat.reduceLeDiff])
              | fail)
            all_goals first | (refine loopQ_next (i + 1) ?_ ?_ ?_; (omega); (show _ < _; omega); (simp -dsimp -implicitDefEqProofs (maxSteps := 1000000) (disch := first | omega | (simp only [LN, e]; omega)) only [go_sem, Int.reduceToNat, Int.reducePow, Nat.reducePow, Int.reduceAdd, Int.reduceMul, Int.reduceSub, Int.reduceNeg, Nat.reduceAdd, Nat.reduceMul, Nat.reduceSub, Nat.reduceEqDiff, Nat.reduceLT, Nat.reduceLeDiff, e]; try trivial)) | omega | (exact absurd he h) | trace_state
          · by_cases hb : (gc x i).bg = a
            · have e : lnR x a (i + 1) = beginT (gc x i) := by unfold lnR; rw [if_neg he, if_pos hb]
              repeat' (first
                | (with_reducible first | refine r_seq ?_ | refine r_block ?_ | refine fork_not ?_ | refine fork_and ?_ | refine fork_or ?_ | refine chk_ok (by kernel_rfl) ?_)
                | ((with_reducible first | refine fork_dec ?_ ?_ | refine fork_eq ?_ ?_ | refine fork_ne ?_ ?_ | refine fork_intro ?_ ?_) <;> intro h <;> try (exfalso; first | omega | exact h rfl | (revert h; decide) | (cases h; done)))
                | ((with_reducible show False); omega)
                | ((first | (with_reducible first | refine r_exit ?_ | refine r_skip ?_ | refine r_cond ?_ | refine r_region ?_ | show VX _ _ _ _ _ _ _ | show vstep _ _ _ _ _ | show vskip _ _ _ | show withV _ _) | ((with_reducible show endA _ _ _ _ _ _ _); simp -implicitDefEqProofs only [endA])); simp -dsimp -implicitDefEqProofs (maxSteps := 1000000) (disch := first | omega | (simp only [LN]; omega)) only [go_sem, Int.reduceToNat, Int.reducePow, Nat.reducePow, Int.reduceAdd, Int.reduceMul, Int.reduceSub, Int.reduceNeg, Nat.reduceAdd, Nat.reduceMul, Nat.reduceSub, Nat.reduceEqDiff, Nat.reduceLT, Nat.reduceLeDiff])
                | ((first | (with_reducible refine r_ret ?_) | (with_reducible refine pick_viewG default (by first | omega | (simp only [LN]; omega)) (by first | omega | (simp only [LN]; omega)) ?_) | (with_reducible refine pick_own default (by first | omega | (simp only [LN]; omega)) ?_) | (with_reducible refine And.intro (by first | decide | omega | assumption | (simp only [LN]; omega)) ?_) | ((with_reducible apply callK_pure); (first | exact c40 (x.cl.getD i default) hR | exact c41 i (x.cl.getD i default).rv (x.cl.getD i default).ok (x.cl.getD i default).code (by omega) hR2.2.2.2.2.2.1 hR2.2.2.2.2.2.2 | fail)) | ((with_reducible apply callF_lend); (first | exact c40 (x.cl.getD i default) hR | exact c41 i (x.cl.getD i default).rv (x.cl.getD i default).ok (x.cl.getD i default).code (by omega) hR2.2.2.2.2.2.1 hR2.2.2.2.2.2.2 | fail); rfl) | ((with_reducible apply callF_go); (first | exact c40 (x.cl.getD i default) hR | exact c41 i (x.cl.getD i default).rv (x.cl.getD i default).ok (x.cl.getD i default).code (by omega) hR2.2.2.2.2.2.1 hR2.2.2.2.2.2.2 | fail)) | ((with_reducible show pickE _ _ _); first | refine pickE_intro _ ⟨by omega, by rfl⟩ ?_ | refine pickE_intro _ (by rfl) ?_) | fail); try simp -dsimp -implicitDefEqProofs (maxSteps := 1000000) (disch := first | omega | (simp only [LN]; omega)) only [go_sem, Int.reduceToNat, Int.reducePow, Nat.reducePow, Int.reduceAdd, Int.reduceMul, Int.reduceSub, Int.reduceNeg, Nat.reduceAdd, Nat.reduceMul, Nat.reduceSub, Nat.reduceEqDiff, Nat.reduceLT, Nat.reduceLeDiff])
                | fail)
              all_goals first | (exact absurd h he) | (exact absurd hb h) | (refine loopQ_next (i + 1) ?_ ?_ ?_; (omega); (show _ < _; omega); (simp -dsimp -implicitDefEqProofs (maxSteps := 1000000) (disch := first | omega | (simp only [LN, e]; omega)) only [go_sem, Int.reduceToNat, Int.reducePow, Nat.reducePow, Int.reduceAdd, Int.reduceMul, Int.reduceSub, Int.reduceNeg, Nat.reduceAdd, Nat.reduceMul, Nat.reduceSub, Nat.reduceEqDiff, Nat.reduceLT, Nat.reduceLeDiff, e]; try trivial)) | omega | trace_state
            · have e : lnR x a (i + 1) = lnR x a i := by conv => lhs; unfold lnR; rw [if_neg he, if_neg hb]
              repeat' (first
                | (with_reducible first | refine r_seq ?_ | refine r_block ?_ | refine fork_not ?_ | refine fork_and ?_ | refine fork_or ?_ | refine chk_ok (by kernel_rfl) ?_)
                | ((with_reducible first | refine fork_dec ?_ ?_ | refine fork_eq ?_ ?_ | refine fork_ne ?_ ?_ | refine fork_intro ?_ ?_) <;> intro h <;> try (exfalso; first | omega | exact h rfl | (revert h; decide) | (cases h; done)))
                | ((with_reducible show False); omega)
                | ((first | (with_reducible first | refine r_exit ?_ | refine r_skip ?_ | refine r_cond ?_ | refine r_region ?_ | show VX _ _ _ _ _ _ _ | show vstep _ _ _ _ _ | show vskip _ _ _ | show withV _ _) | ((with_reducible show endA _ _ _ _ _ _ _); simp -implicitDefEqProofs only [endA])); simp -dsimp -implicitDefEqProofs (maxSteps := 1000000) (disch := first | omega | (simp only [LN]; omega)) only [go_sem, Int.reduceToNat, Int.reducePow, Nat.reducePow, Int.reduceAdd, Int.reduceMul, Int.reduceSub, Int.reduceNeg, Nat.reduceAdd, Nat.reduceMul, Nat.reduceSub, Nat.reduceEqDiff, Nat.reduceLT, Nat.reduceLeDiff])
                | ((first | (with_reducible refine r_ret ?_) | (with_reducible refine pick_viewG default (by first | omega | (simp only [LN]; omega)) (by first | omega | (simp only [LN]; omega)) ?_) | (with_reducible refine pick_own default (by first | omega | (simp only [LN]; omega)) ?_) | (with_reducible refine And.intro (by first | decide | omega | assumption | (simp only [LN]; omega)) ?_) | ((with_reducible apply callK_pure); (first | exact c40 (x.cl.getD i default) hR | exact c41 i (x.cl.getD i default).rv (x.cl.getD i default).ok (x.cl.getD i default).code (by omega) hR2.2.2.2.2.2.1 hR2.2.2.2.2.2.2 | fail)) | ((with_reducible apply callF_lend); (first | exact c40 (x.cl.getD i default) hR | exact c41 i (x.cl.getD i default).rv (x.cl.getD i default).ok (x.cl.getD i default).code (by omega) hR2.2.2.2.2.2.1 hR2.2.2.2.2.2.2 | fail); rfl) | ((with_reducible apply callF_go); (first | exact c40 (x.cl.getD i default) hR | exact c41 i (x.cl.getD i default).rv (x.cl.getD i default).ok (x.cl.getD i default).code (by omega) hR2.2.2.2.2.2.1 hR2.2.2.2.2.2.2 | fail)) | ((with_reducible show pickE _ _ _); first | refine pickE_intro _ ⟨by omega, by rfl⟩ ?_ | refine pickE_intro _ (by rfl) ?_) | fail); try simp -dsimp -implicitDefEqProofs (maxSteps := 1000000) (disch := first | omega | (simp only [LN]; omega)) only [go_sem, Int.reduceToNat, Int.reducePow, Nat.reducePow, Int.reduceAdd, Int.reduceMul, Int.reduceSub, Int.reduceNeg, Nat.reduceAdd, Nat.reduceMul, Nat.reduceSub, Nat.reduceEqDiff, Nat.reduceLT, Nat.reduceLeDiff])
                | fail)
              all_goals first | (exact absurd h he) | (exact absurd h hb) | (refine loopQ_next (i + 1) ?_ ?_ ?_; (omega); (show _ < _; omega); (simp -dsimp -implicitDefEqProofs (maxSteps := 1000000) (disch := first | omega | (simp only [LN, e]; omega)) only [go_sem, Int.reduceToNat, Int.reducePow, Nat.reducePow, Int.reduceAdd, Int.reduceMul, Int.reduceSub, Int.reduceNeg, Nat.reduceAdd, Nat.reduceMul, Nat.reduceSub, Nat.reduceEqDiff, Nat.reduceLT, Nat.reduceLeDiff, e]; try trivial)) | omega | trace_state
        · have e : i = x.cl.length := by omega
          have hs : evsT x (a + 1) = evsT x a ++ (lnR x a i ++ [10]) := by rw [evsT_s, e, lnR_ev hI (by omega)]
          have hll := lnR_len hr hl a i hi
          repeat' (first
            | (with_reducible first | refine r_seq ?_ | refine r_block ?_ | refine fork_not ?_ | refine fork_and ?_ | refine fork_or ?_ | refine chk_ok (by kernel_rfl) ?_)
            | ((with_reducible first | refine fork_dec ?_ ?_ | refine fork_eq ?_ ?_ | refine fork_ne ?_ ?_ | refine fork_intro ?_ ?_) <;> intro h <;> try (exfalso; first | omega | exact h rfl | (revert h; decide) | (cases h; done)))
            | ((with_reducible show False); omega)
            | ((first | (with_reducible first | refine r_exit ?_ | refine r_skip ?_ | refine r_cond ?_ | refine r_region ?_ | show VX _ _ _ _ _ _ _ | show vstep _ _ _ _ _ | show vskip _ _ _ | show withV _ _) | ((with_reducible show endA _ _ _ _ _ _ _); simp -implicitDefEqProofs only [endA])); simp -dsimp -implicitDefEqProofs (maxSteps := 1000000) (disch := first | omega | (simp only [LN]; omega)) only [go_sem, Int.reduceToNat, Int.reducePow, Nat.reducePow, Int.reduceAdd, Int.reduceMul, Int.reduceSub, Int.reduceNeg, Nat.reduceAdd, Nat.reduceMul, Nat.reduceSub, Nat.reduceEqDiff, Nat.reduceLT, Nat.reduceLeDiff])
            | ((first | (with_reducible refine r_ret ?_) | (with_reducible refine pick_viewG default (by first | omega | (simp only [LN]; omega)) (by first | omega | (simp only [LN]; omega)) ?_) | (with_reducible refine pick_own default (by first | omega | (simp only [LN]; omega)) ?_) | (with_reducible refine And.intro (by first | decide | omega | assumption | (simp only [LN]; omega)) ?_) | ((with_reducible show pickE _ _ _); first | refine pickE_intro _ ⟨by omega, by rfl⟩ ?_ | refine pickE_intro _ (by rfl) ?_) | fail); try simp -dsimp -implicitDefEqProofs (maxSteps := 1000000) (disch := first | omega | (simp only [LN]; omega)) only [go_sem, Int.reduceToNat, Int.reducePow, Nat.reducePow, Int.reduceAdd, Int.reduceMul, Int.reduceSub, Int.reduceNeg, Nat.reduceAdd, Nat.reduceMul, Nat.reduceSub, Nat.reduceEqDiff, Nat.reduceLT, Nat.reduceLeDiff])
            | fail)
          all_goals first | (refine loopQ_next (a + 1) ?_ ?_ ?_; (omega); (show _ < _; omega); (simp -dsimp -implicitDefEqProofs (maxSteps := 1000000) (disch := first | omega | (simp only [LN, hs]; omega)) only [go_sem, Int.reduceToNat, Int.reducePow, Nat.reducePow, Int.reduceAdd, Int.reduceMul, Int.reduceSub, Int.reduceNeg, Nat.reduceAdd, Nat.reduceMul, Nat.reduceSub, Nat.reduceEqDiff, Nat.reduceLT, Nat.reduceLeDiff, hs]; try trivial)) | omega | trace_state
    · unfold textM; rw [show a = x.ev.length by omega]
theorem a25t (l : List S) (hr : ∀ s, s ∈ l → RngS s) (n : Nat) (hn : n ≤ 1000) : ACalls Tryd.prog 25 [.p (.v (.string (bs (textM (playN l n)))))] [] (.tup [.loc 0 0, .p (.v (.int .i64 0)), .p (.v (.int .i64 0))]) [oH (playN l n) 1 2, .arr 2 ((playN l n).ev.map eE), .arr 11 ((playN l n).cl.map eC)] := by
  unfold playN
  rw [text_all]
  exact a25 l (min l.length n) hr (by omega)
theorem playN_rng {l : List S} (hr : ∀ s, s ∈ l → RngS s) (n : Nat) : ∀ j, j < (playN l n).cl.length → RngI (gc (playN l n) j) := by
  unfold playN
  exact rng_of (play_inv l _) (play_rng hr _)
attribute [local irreducible] doH playH h0 playN textM
set_option maxRecDepth 100000 in
set_option maxHeartbeats 4000000 in
theorem c7 (l : List S) (hr : ∀ s, s ∈ l → RngS s) : PCalls Tryd.prog 7 [.view 10 (l.map eS)] (.v (.bool true)) := by
  refine pcalls_facts ⟨_, rfl, rfl, by decide⟩ fun hf => ?_
  simp only [go_sem, big] at hf
  refine pcalls_of (E := E) (fn := Tryd.f7) 55 [.tmp 2] rfl rfl rfl rfl (by decide) rfl ?_
  have a13' : ACalls Tryd.prog 13 [.p (.view 10 (l.map eS)), .p (.v (.int .i64 40))] [] (.tup [.loc 0 0, .p (hX (playN l 40))]) [oH (playN l 40) 1 2, .arr 2 ((playN l 40).ev.map eE), .arr 11 ((playN l 40).cl.map eC)] := a13 l 40 (by decide)
  have hl := playN_len l 40
  have hI := playN_inv l 40
  have hR := playN_rng hr 40
  have kp := a25t l hr 40 (by decide)
  generalize playN l 40 = x at a13' hl hI hR kp
  have kt := c23a x hI hR (by omega) (by omega)
  have k26 := c26 x hI hR (by omega) (by omega)
  have ks := c12 x x.ev.length ⟨hI.era, by omega⟩ (by omega) (gk hI)
  repeat' (first
    | (with_reducible first | refine r_seq ?_ | refine r_block ?_ | refine fork_not ?_ | refine fork_and ?_ | refine fork_or ?_ | refine chk_ok (by kernel_rfl) ?_)
    | ((with_reducible first | refine fork_dec ?_ ?_ | refine fork_eq ?_ ?_ | refine fork_ne ?_ ?_ | refine fork_intro ?_ ?_) <;> intro h <;> try (exfalso; first | omega | exact h rfl | (revert h; decide) | (cases h; done)))
    | ((with_reducible show False); omega)
    | ((first | (with_reducible first | refine r_exit ?_ | refine r_skip ?_ | refine r_cond ?_ | refine r_region ?_ | show VX _ _ _ _ _ _ _ | show vstep _ _ _ _ _ | show vskip _ _ _ | show withV _ _) | ((with_reducible show endA _ _ _ _ _ _ _); simp -implicitDefEqProofs only [endA])); simp -dsimp -implicitDefEqProofs (maxSteps := 1000000) (disch := first | omega | (simp only [LN]; omega)) only [go_sem, Int.reduceToNat, Int.reducePow, Nat.reducePow, Int.reduceAdd, Int.reduceMul, Int.reduceSub, Int.reduceNeg, Nat.reduceAdd, Nat.reduceMul, Nat.reduceSub, Nat.reduceEqDiff, Nat.reduceLT, Nat.reduceLeDiff])
    | ((first | (with_reducible refine r_ret ?_) | (with_reducible refine pick_viewG default (by first | omega | (simp only [LN]; omega)) (by first | omega | (simp only [LN]; omega)) ?_) | (with_reducible refine pick_own default (by first | omega | (simp only [LN]; omega)) ?_) | (with_reducible refine And.intro (by first | decide | omega | assumption | (simp only [LN]; omega)) ?_) | ((with_reducible apply callK_pure); (first | exact c9 | exact kt | exact k26 | exact ks | fail)) | ((with_reducible apply callF_lend); (first | exact c9 | exact kt | exact k26 | exact ks | fail); rfl) | ((with_reducible apply callF_go); (first | exact c9 | exact kt | exact k26 | exact ks | fail)) | (with_reducible first | apply callK_lent | apply callF_lent | apply hideP_own) | ((with_reducible apply callA_go); (first | exact a13' | exact kp | fail)) | ((with_reducible show pickE _ _ _); first | refine pickE_intro _ ⟨by omega, by rfl⟩ ?_ | refine pickE_intro _ (by rfl) ?_) | fail); try simp -dsimp -implicitDefEqProofs (maxSteps := 1000000) (disch := first | omega | (simp only [LN]; omega)) only [go_sem, Int.reduceToNat, Int.reducePow, Nat.reducePow, Int.reduceAdd, Int.reduceMul, Int.reduceSub, Int.reduceNeg, Nat.reduceAdd, Nat.reduceMul, Nat.reduceSub, Nat.reduceEqDiff, Nat.reduceLT, Nat.reduceLeDiff])
    | fail)
  all_goals first | rfl | (exact absurd rfl h) | omega | trace_state
end Go.Proofs.YtjoojmmfelmgkaaDoor
