/- Contracts of functions of this program, and the plain facts that they rest on. No conditions. -/
import Derived.Test.YtjoojmmfelmgkaaDoorD8
set_option linter.unusedSimpArgs false
set_option linter.unusedVariables false
namespace Go.Proofs.YtjoojmmfelmgkaaDoor
open Go Go.Ab
attribute [local irreducible] callK callF loopQ vstep vskip pickE hideP
set_option maxRecDepth 100000
attribute [local go_sem] eC rC eE hc hP hW oW oP sR oH newC eT eU
def X1 : H := invH h0 0 5 7 1 0
def X2 : H := invH X1 1 4 7 0 0
def X3 : H := retH X2 0 0 true 0
def X4 : H := crashH X3
def X5 : H := invH X4 1 4 7 0 0
theorem n0 : numL 0 = [48] := by simp [numL, Lib.itoa, Lib.decDigits]
theorem n1 : numL 1 = [49] := by simp [numL, Lib.itoa, Lib.decDigits]
theorem n7 : numL 7 = [55] := by simp [numL, Lib.itoa, Lib.decDigits]
def lit5 : List UInt8 := [98, 101, 103, 105, 110, 32, 48, 32, 112, 117, 116, 32, 55, 32, 49, 32, 48, 10, 98, 101, 103, 105, 110, 32, 49, 32, 103, 101, 116, 32, 55, 32, 48, 32, 48, 10, 101, 110, 100, 32, 48, 32, 48, 32, 116, 114, 117, 101, 32, 48, 10, 99, 114, 97, 115, 104, 10, 98, 101, 103, 105, 110, 32, 49, 32, 103, 101, 116, 32, 55, 32, 48, 32, 48, 10]
theorem beg_e (c : C) : beginT c = [98, 101, 103, 105, 110, 32] ++ numL c.th ++ [32] ++ kindL c.k ++ ([] ++ ([32] ++ numL c.key) ++ ([32] ++ numL c.val) ++ ([32] ++ numL c.old)) := rfl
theorem text5 : textM X5 = lit5 := by
  have e0 : evT X5 (X5.ev.getD 0 default) = beginT ⟨0, 5, 7, 1, 0, 0, 2, 0, 0, true, 0⟩ := rfl
  have e1 : evT X5 (X5.ev.getD 1 default) = beginT ⟨1, 4, 7, 0, 0, 1, -1, 0, 0, false, 0⟩ := rfl
  have e2 : evT X5 (X5.ev.getD 2 default) = endT 0 0 true 0 := rfl
  have e3 : evT X5 (X5.ev.getD 3 default) = crashT := rfl
  have e4 : evT X5 (X5.ev.getD 4 default) = beginT ⟨1, 4, 7, 0, 0, 4, -1, 1, 0, false, 0⟩ := rfl
  show evsT X5 5 = lit5
  rw [evsT, evsT, evsT, evsT, evsT, evsT, e0, e1, e2, e3, e4]
  simp only [beg_e, endT, n0, n1, n7]
  rfl
theorem rng5 : ∀ j, j < X5.cl.length → RngI (gc X5 j) := by
  intro j hj
  have hj : j < 3 := hj
  rcases (by omega : j = 0 ∨ j = 1 ∨ j = 2) with rfl | rfl | rfl <;> (unfold RngI; decide)
theorem k23 : PCalls Tryd.prog 23 [hP X5] (.v (.string (bs lit5))) := by
  rw [← text5]
  refine c23 X5 (by decide) (by decide) (by decide) rng5 (fun i hi => ?_) (fun i hi => ?_)
  · have hi : i < 5 := hi
    rcases (by omega : i = 0 ∨ i = 1 ∨ i = 2 ∨ i = 3 ∨ i = 4) with rfl | rfl | rfl | rfl | rfl <;> decide
  · match i, hi with
    | 0, _ | 1, _ | 2, _ | 4, _ => decide
    | 3, h => exact absurd h (by decide)
    | n + 5, h => exact absurd h (by
        have : X5.ev.getD (n + 5) default = (0, 0) := rfl
        rw [this]; decide)
theorem k14a : PCalls Tryd.prog 14 [hP X5, .v (.int .i64 1), .v (.int .i64 2)] (.v (.bool true)) := by
  have := c14 X5 1 2
  rw [decide_eq_true (by unfold befM; decide)] at this; exact this
theorem k14b : PCalls Tryd.prog 14 [hP X5, .v (.int .i64 0), .v (.int .i64 1)] (.v (.bool false)) := by
  have := c14 X5 0 1
  rw [decide_eq_false (by unfold befM; decide)] at this; exact this
theorem q1 : ACalls Tryd.prog 18 [.loc 0 0, .p (.v (.int .i64 0)), .p (oP 5 7 1 0)] [oH h0 1 2, .arr 2 (h0.ev.map eE), .arr 11 (h0.cl.map eC)] (.p (.v (.int .i64 0))) [oH X1 3 4, .dead, .dead, .arr 2 (X1.ev.map eE), .arr 11 (X1.cl.map eC)] :=
  a18o h0 0 5 7 1 0 (by decide) (by decide) rfl (by decide) (by decide)
theorem q2 : ACalls Tryd.prog 18 [.loc 0 0, .p (.v (.int .i64 1)), .p (oP 4 7 0 0)] [oH X1 1 2, .arr 2 (X1.ev.map eE), .arr 11 (X1.cl.map eC)] (.p (.v (.int .i64 1))) [oH X2 3 4, .dead, .dead, .arr 2 (X2.ev.map eE), .arr 11 (X2.cl.map eC)] :=
  a18o X1 1 4 7 0 0 (by decide) (by decide) rfl (by decide) (by decide)
theorem q3 : ACalls Tryd.prog 20 [.loc 0 0, .p (.v (.int .i64 0)), .p (sR 0 true 0)] [oH X2 1 2, .arr 2 (X2.ev.map eE), .arr 11 (X2.cl.map eC)] (.p (.v (.bool true))) [oH X3 3 2, .dead, .arr 11 (X3.cl.map eC), .arr 2 (X3.ev.map eE)] :=
  a20o X2 0 0 true 0 (by unfold pendM; decide) (by decide) (by decide) (by decide) (by decide)
theorem q4 : ACalls Tryd.prog 17 [.loc 0 0] [oH X3 1 2, .arr 2 (X3.ev.map eE), .arr 11 (X3.cl.map eC)] (.p (.tup [])) [oH X4 3 2, .dead, .arr 11 (X4.cl.map eC), .arr 2 (X4.ev.map eE)] :=
  a17 X3 (by decide) (by decide) (by decide)
theorem q5 : ACalls Tryd.prog 18 [.loc 0 0, .p (.v (.int .i64 1)), .p (oP 4 7 0 0)] [oH X4 1 2, .arr 2 (X4.ev.map eE), .arr 11 (X4.cl.map eC)] (.p (.v (.int .i64 2))) [oH X5 3 4, .dead, .dead, .arr 2 (X5.ev.map eE), .arr 11 (X5.cl.map eC)] :=
  a18o X4 1 4 7 0 0 (by decide) (by decide) rfl (by decide) (by decide)
theorem lit5_len : lit5.length = 75 := rfl
attribute [local irreducible] X1 X2 X3 X4 X5
set_option maxRecDepth 100000 in
set_option maxHeartbeats 4000000 in
theorem c9  : PCalls Tryd.prog 9 [] (.v (.bool true)) := by
  refine pcalls_of (E := E) (fn := Tryd.f9) 48 [.tmp 0] rfl rfl rfl rfl (by decide) rfl ?_
  repeat' (first
    | (with_reducible first | refine r_seq ?_ | refine r_block ?_ | refine fork_not ?_ | refine fork_and ?_ | refine fork_or ?_ | refine chk_ok (by kernel_rfl) ?_)
    | ((with_reducible first | refine fork_dec ?_ ?_ | refine fork_eq ?_ ?_ | refine fork_ne ?_ ?_ | refine fork_intro ?_ ?_) <;> intro h)
    | ((with_reducible show False); omega)
    | ((first | (with_reducible first | refine r_exit ?_ | refine r_skip ?_ | refine r_cond ?_ | refine r_region ?_ | show VX _ _ _ _ _ _ _ | show vstep _ _ _ _ _ | show vskip _ _ _ | show withV _ _) | ((with_reducible show endA _ _ _ _ _ _ _); simp -implicitDefEqProofs only [endA])); simp -dsimp -implicitDefEqProofs (maxSteps := 1000000) (disch := first | omega | (simp only [LN]; omega)) only [go_sem, Int.reduceToNat, Int.reducePow, Nat.reducePow, Int.reduceAdd, Int.reduceMul, Int.reduceSub, Int.reduceNeg, Nat.reduceAdd, Nat.reduceMul, Nat.reduceSub, Nat.reduceEqDiff, Nat.reduceLT, Nat.reduceLeDiff])
    | ((first | (with_reducible refine r_ret ?_) | (with_reducible refine pick_viewG default (by first | omega | (simp only [LN]; omega)) (by first | omega | (simp only [LN]; omega)) ?_) | (with_reducible refine pick_own default (by first | omega | (simp only [LN]; omega)) ?_) | (with_reducible refine And.intro (by first | decide | omega | assumption | (simp only [LN]; omega)) ?_) | ((with_reducible apply callK_pure); (first | exact k14a | exact k14b | exact k23 | fail)) | ((with_reducible apply callF_lend); (first | exact k14a | exact k14b | exact k23 | fail); rfl) | ((with_reducible apply callF_go); (first | exact k14a | exact k14b | exact k23 | fail)) | (with_reducible first | apply callK_lent | apply callF_lent | apply hideP_own) | ((with_reducible apply callA_go); (first | exact a10 | exact q1 | exact q2 | exact q3 | exact q4 | exact q5 | fail)) | ((with_reducible show pickE _ _ _); first | refine pickE_intro _ ⟨by omega, by rfl⟩ ?_ | refine pickE_intro _ (by rfl) ?_) | fail); try simp -dsimp -implicitDefEqProofs (maxSteps := 1000000) (disch := first | omega | (simp only [LN]; omega)) only [go_sem, Int.reduceToNat, Int.reducePow, Nat.reducePow, Int.reduceAdd, Int.reduceMul, Int.reduceSub, Int.reduceNeg, Nat.reduceAdd, Nat.reduceMul, Nat.reduceSub, Nat.reduceEqDiff, Nat.reduceLT, Nat.reduceLeDiff])
    | fail)
  all_goals first | rfl | trace_state
end Go.Proofs.YtjoojmmfelmgkaaDoor
