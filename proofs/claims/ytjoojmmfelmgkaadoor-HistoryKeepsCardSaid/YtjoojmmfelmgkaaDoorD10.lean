/- Contracts of functions of this program, and the plain facts that they rest on. No conditions. -/
import Derived.Test.YtjoojmmfelmgkaaDoorD9
set_option linter.unusedSimpArgs false
set_option linter.unusedVariables false
namespace Go.Proofs.YtjoojmmfelmgkaaDoor
open Go Go.Ab
attribute [local irreducible] callK callF loopQ vstep vskip pickE hideP
set_option maxRecDepth 100000
attribute [local go_sem] eC rC eE hc hP hW hX oW oP sR oH newC eS
/-- The history after the first steps. -/
def playH (l : List S) : Nat → H
  | 0 => h0
  | i + 1 => doH (playH l i) (l.getD i default)
theorem play_0 (l : List S) : playH l 0 = h0 := rfl
theorem play_s (l : List S) (i : Nat) : playH l (i + 1) = doH (playH l i) (l.getD i default) := rfl
theorem play_inv (l : List S) : ∀ i, Inv (playH l i)
  | 0 => inv_h0
  | i + 1 => inv_do (play_inv l i)
theorem play_len (l : List S) : ∀ i, (playH l i).ev.length ≤ i ∧ (playH l i).cl.length ≤ i ∧ (playH l i).era ≤ i
  | 0 => ⟨Nat.le_refl _, Nat.le_refl _, Int.le_refl _⟩
  | i + 1 => by
    have h := play_len l i
    have h2 := do_len (playH l i) (l.getD i default)
    rw [play_s]; omega
theorem h0_ev : h0.ev = [] := rfl
theorem h0_cl : h0.cl = [] := rfl
theorem h0_era : h0.era = 0 := rfl
attribute [local irreducible] doH playH h0
set_option maxRecDepth 100000 in
set_option maxHeartbeats 4000000 in
theorem c3 (l : List S) : PCalls Tryd.prog 3 [.view 10 (l.map eS)] (.v (.bool true)) := by
  refine pcalls_facts ⟨_, rfl, rfl, by decide⟩ fun hf => ?_
  simp only [go_sem, big] at hf
  refine pcalls_of (E := E) (fn := Tryd.f3) 39 [.tmp 2] rfl rfl rfl rfl (by decide) rfl ?_
  repeat' (first
    | (with_reducible first | refine r_seq ?_ | refine r_block ?_ | refine fork_not ?_ | refine fork_and ?_ | refine fork_or ?_ | refine chk_ok (by kernel_rfl) ?_)
    | ((with_reducible first | refine fork_dec ?_ ?_ | refine fork_eq ?_ ?_ | refine fork_ne ?_ ?_ | refine fork_intro ?_ ?_) <;> intro h)
    | ((with_reducible show False); omega)
    | ((first | (with_reducible first | refine r_exit ?_ | refine r_skip ?_ | refine r_cond ?_ | refine r_region ?_ | show VX _ _ _ _ _ _ _ | show vstep _ _ _ _ _ | show vskip _ _ _ | show withV _ _) | ((with_reducible show endA _ _ _ _ _ _ _); simp -implicitDefEqProofs only [endA])); simp -dsimp -implicitDefEqProofs (maxSteps := 1000000) (disch := first | omega | (simp only [LN]; omega)) only [go_sem, Int.reduceToNat, Int.reducePow, Nat.reducePow, Int.reduceAdd, Int.reduceMul, Int.reduceSub, Int.reduceNeg, Nat.reduceAdd, Nat.reduceMul, Nat.reduceSub, Nat.reduceEqDiff, Nat.reduceLT, Nat.reduceLeDiff])
    | ((first | (with_reducible refine r_ret ?_) | (with_reducible refine pick_viewG default (by first | omega | (simp only [LN]; omega)) (by first | omega | (simp only [LN]; omega)) ?_) | (with_reducible refine pick_own default (by first | omega | (simp only [LN]; omega)) ?_) | (with_reducible refine And.intro (by first | decide | omega | assumption | (simp only [LN]; omega)) ?_) | ((with_reducible apply callK_pure); (exact c9)) | ((with_reducible apply callF_lend); (exact c9); rfl) | ((with_reducible apply callF_go); (exact c9)) | (with_reducible first | apply callK_lent | apply callF_lent | apply hideP_own) | ((with_reducible apply callA_go); (first | exact a10 | fail)) | ((with_reducible show pickE _ _ _); first | refine pickE_intro _ ⟨by omega, by rfl⟩ ?_ | refine pickE_intro _ (by rfl) ?_) | fail); try simp -dsimp -implicitDefEqProofs (maxSteps := 1000000) (disch := first | omega | (simp only [LN]; omega)) only [go_sem, Int.reduceToNat, Int.reducePow, Nat.reducePow, Int.reduceAdd, Int.reduceMul, Int.reduceSub, Int.reduceNeg, Nat.reduceAdd, Nat.reduceMul, Nat.reduceSub, Nat.reduceEqDiff, Nat.reduceLT, Nat.reduceLeDiff])
    | fail)
  refine r_loopA (α := Nat) [0, 3, 4] (fun i b => [(5, aI i)]) (fun i b => [(3, oH (playH l i) b (b + 1)), (4, .var [.p (.view 11 ((playH l i).cl.map rC)), .p (.v (.int .i64 (playH l i).ev.length)), .p (.v (.int .i64 (playH l i).era))])]) (fun i => [.arr 2 ((playH l i).ev.map eE), .arr 11 ((playH l i).cl.map eC)]) (fun i => i ≤ l.length ∧ i ≤ 40) (fun i => 40 - i) (0) ?h0_1 ?hs0_1 ?I_1 ?hI_1 ?round_1
  case hI_1 => intro x; (simp -dsimp -implicitDefEqProofs (maxSteps := 1000000) (disch := first | omega | (simp only [LN]; omega)) only [go_sem, Int.reduceToNat, Int.reducePow, Nat.reducePow, Int.reduceAdd, Int.reduceMul, Int.reduceSub, Int.reduceNeg, Nat.reduceAdd, Nat.reduceMul, Nat.reduceSub, Nat.reduceEqDiff, Nat.reduceLT, Nat.reduceLeDiff]) <;> exact rfl
  case hs0_1 => refine wk_auto ?_; (simp -dsimp -implicitDefEqProofs (maxSteps := 1000000) (disch := first | omega | (simp only [LN, play_0, h0_ev, h0_cl, h0_era]; omega)) only [go_sem, Int.reduceToNat, Int.reducePow, Nat.reducePow, Int.reduceAdd, Int.reduceMul, Int.reduceSub, Int.reduceNeg, Nat.reduceAdd, Nat.reduceMul, Nat.reduceSub, Nat.reduceEqDiff, Nat.reduceLT, Nat.reduceLeDiff, play_0, h0_ev, h0_cl, h0_era]) <;> (try omega)
  case h0_1 => omega
  case round_1 =>
    rintro i ⟨h1, h2⟩
    have hI := play_inv l i
    have hI2 := play_inv l (i + 1)
    have hl := play_len l i
    have hl2 := play_len l (i + 1)
    have ks := c12 (playH l (i + 1)) (playH l (i + 1)).ev.length ⟨hI2.era, by omega⟩ (by omega) (gk hI2)
    rw [play_s] at ks
    repeat' (first
      | (with_reducible first | refine r_seq ?_ | refine r_block ?_ | refine fork_not ?_ | refine fork_and ?_ | refine fork_or ?_ | refine chk_ok (by kernel_rfl) ?_)
      | ((with_reducible first | refine fork_dec ?_ ?_ | refine fork_eq ?_ ?_ | refine fork_ne ?_ ?_ | refine fork_intro ?_ ?_) <;> intro h)
      | ((with_reducible show False); omega)
      | ((first | (with_reducible first | refine r_exit ?_ | refine r_skip ?_ | refine r_cond ?_ | refine r_region ?_ | show VX _ _ _ _ _ _ _ | show vstep _ _ _ _ _ | show vskip _ _ _ | show withV _ _) | ((with_reducible show endA _ _ _ _ _ _ _); simp -implicitDefEqProofs only [endA])); simp -dsimp -implicitDefEqProofs (maxSteps := 1000000) (disch := first | omega | (simp only [LN]; omega)) only [go_sem, Int.reduceToNat, Int.reducePow, Nat.reducePow, Int.reduceAdd, Int.reduceMul, Int.reduceSub, Int.reduceNeg, Nat.reduceAdd, Nat.reduceMul, Nat.reduceSub, Nat.reduceEqDiff, Nat.reduceLT, Nat.reduceLeDiff])
      | ((first | (with_reducible refine r_ret ?_) | (with_reducible refine pick_viewG default (by first | omega | (simp only [LN]; omega)) (by first | omega | (simp only [LN]; omega)) ?_) | (with_reducible refine pick_own default (by first | omega | (simp only [LN]; omega)) ?_) | (with_reducible refine And.intro (by first | decide | omega | assumption | (simp only [LN]; omega)) ?_) | ((with_reducible apply callK_pure); (exact ks)) | ((with_reducible apply callF_lend); (exact ks); rfl) | ((with_reducible apply callF_go); (exact ks)) | (with_reducible first | apply callK_lent | apply callF_lent | apply hideP_own) | ((with_reducible apply callA_go); (first | exact a11 (playH l i) (l.getD i default) hI (by omega) (by omega) (by omega) | fail)) | ((with_reducible show pickE _ _ _); first | refine pickE_intro _ ⟨by omega, by rfl⟩ ?_ | refine pickE_intro _ (by rfl) ?_) | fail); try simp -dsimp -implicitDefEqProofs (maxSteps := 1000000) (disch := first | omega | (simp only [LN]; omega)) only [go_sem, Int.reduceToNat, Int.reducePow, Nat.reducePow, Int.reduceAdd, Int.reduceMul, Int.reduceSub, Int.reduceNeg, Nat.reduceAdd, Nat.reduceMul, Nat.reduceSub, Nat.reduceEqDiff, Nat.reduceLT, Nat.reduceLeDiff])
      | fail)
    all_goals first
      | (refine loopQ_next (i + 1) ?_ ?_ ?_; (omega); (show _ < _; omega); (simp -dsimp -implicitDefEqProofs (maxSteps := 1000000) (disch := first | omega | (simp only [LN, play_s]; omega)) only [go_sem, Int.reduceToNat, Int.reducePow, Nat.reducePow, Int.reduceAdd, Int.reduceMul, Int.reduceSub, Int.reduceNeg, Nat.reduceAdd, Nat.reduceMul, Nat.reduceSub, Nat.reduceEqDiff, Nat.reduceLT, Nat.reduceLeDiff, play_s]; try trivial))
      | rfl
      | trace_state
/-- The ranges of a step's values. -/
def RngS (s : S) : Prop := (-9223372036854775808 ≤ s.kd ∧ s.kd ≤ 9223372036854775807) ∧ (-9223372036854775808 ≤ s.th ∧ s.th ≤ 9223372036854775807) ∧ (-9223372036854775808 ≤ s.call ∧ s.call ≤ 9223372036854775807) ∧ (-9223372036854775808 ≤ s.k ∧ s.k ≤ 9223372036854775807) ∧ (0 ≤ s.key ∧ s.key ≤ 18446744073709551615) ∧ (0 ≤ s.val ∧ s.val ≤ 18446744073709551615) ∧ (0 ≤ s.old ∧ s.old ≤ 18446744073709551615) ∧ (0 ≤ s.rv ∧ s.rv ≤ 18446744073709551615) ∧ (-9223372036854775808 ≤ s.code ∧ s.code ≤ 9223372036854775807)
/-- The steps, out of their reading. -/
theorem steps_of {es : List (List PV)} (g : ∀ c, c ∈ es → Shp E.tys 4 37 c) : ∃ l : List S, es.map (wrapP true) = l.map eS ∧ ∀ s, s ∈ l → RngS s := by
  obtain ⟨l, e, _, hq⟩ := shp_list (f := eS) (Q := RngS) (agg := true) (es := es) (fun c hc => by
    have := g c hc
    simp only [Shp, ty37, shpF, ty3, ty33, ty35, ty31, ty4] at this
    obtain ⟨_, _, rfl, ⟨x1, rfl, h1⟩, _, _, rfl, ⟨x2, rfl, h2⟩, _, _, rfl, ⟨x3, rfl, h3⟩, _, _, rfl, ⟨_, _, rfl, ⟨x4, rfl, h4⟩, _, _, rfl, ⟨x5, rfl, h5⟩, _, _, rfl, ⟨x6, rfl, h6⟩, _, _, rfl, ⟨x7, rfl, h7⟩, rfl⟩, _, _, rfl, ⟨_, _, rfl, ⟨x8, rfl, h8⟩, _, _, rfl, ⟨x9, rfl⟩, _, _, rfl, ⟨x10, rfl, h10⟩, rfl⟩, rfl⟩ := this
    exact ⟨⟨x1, x2, x3, x4, x5, x6, x7, x8, x9, x10⟩, rfl, rng_i64 h1, rng_i64 h2, rng_i64 h3, rng_i64 h4, rng_u64 h5, rng_u64 h6, rng_u64 h7, rng_u64 h8, rng_i64 h10⟩)
  exact ⟨l, e, hq⟩
end Go.Proofs.YtjoojmmfelmgkaaDoor
