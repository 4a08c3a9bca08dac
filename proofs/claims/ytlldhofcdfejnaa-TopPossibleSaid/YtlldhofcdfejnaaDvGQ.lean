/- Contracts of functions of this program, and the plain facts that they rest on. No conditions. -/
import Derived.Test.YtlldhofcdfejnaaDvEQ
import Derived.Test.YtlldhofcdfejnaaAc4
import Derived.Test.YtlldhofcdfejnaaDvBQ
set_option linter.unusedSimpArgs false
set_option linter.unusedVariables false
namespace Go.Proofs.Ytlldhofcdfejnaa
open Go Go.Ab
attribute [local irreducible] callK callF loopQ vstep vskip pickE hideP
set_option maxRecDepth 100000
attribute [local go_sem] deO peO cuO liO thO hiO noO
def Dv.persist (A : Dv) (r k : Nat) : Dv := { A with per := appL A.per ((A.hist r).take k), hist := upd A.hist r ((A.hist r).drop k), done := upd A.done r (A.done r + k) }
def jper (A : Dv) (J : Nat → List (Int × Int)) (r k : Nat) : Nat → List (Int × Int) := fun i => if i = r then jk A J r ++ (A.hist r).take k else J i
theorem jk_per (A : Dv) (J : Nat → List (Int × Int)) (r k i : Nat) (h : k < (A.hist r).length) : jk (A.persist r k) (jper A J r k) i = if i = r then jk A J r ++ (A.hist r).take k else jk A J i := by
 unfold jk Dv.persist upd jper
 by_cases hi : i = r
 ·subst hi
  simp only [if_true]
  cases hd : (A.hist i).drop k with
  | nil => have := congrArg List.length hd; simp at this; omega
  | cons x l => rfl
 ·simp only [if_neg hi]
theorem jk_perA (A : Dv) (J : Nat → List (Int × Int)) (r k i : Nat) (h : k = (A.hist r).length) : jk (A.persist r k) (jper A J r k) i = if i = r then [] else jk A J i := by
 unfold jk Dv.persist upd jper
 by_cases hi : i = r
 ·subst hi
  simp only [if_true]
  rw [show (A.hist i).drop k = [] from List.drop_of_length_le (by omega)]
 ·simp only [if_neg hi]
theorem per_p (A : Dv) (r k : Nat) : (A.persist r k).n = A.n ∧ (A.persist r k).per = appL A.per ((A.hist r).take k) ∧ (A.persist r k).cur = A.cur ∧ (A.persist r k).err = A.err ∧ (A.persist r k).note = A.note ∧ (A.persist r k).off = A.off ∧ (A.persist r k).armed = A.armed ∧ (A.persist r k).left = A.left ∧ (A.persist r k).ex = A.ex := ⟨rfl, rfl, rfl, rfl, rfl, rfl, rfl, rfl, rfl⟩
theorem per_hist (A : Dv) (r k i : Nat) : (A.persist r k).hist i = if i = r then (A.hist r).drop k else A.hist i := rfl
theorem per_done (A : Dv) (r k i : Nat) : (A.persist r k).done i = if i = r then A.done r + k else A.done i := rfl
def noX (es : Nat → Array MapEntry) (cl : Nat → Nat) (k : Nat) : Ob := .mpx (some .i64) (es k) (cl k)
attribute [local go_sem] noX
set_option maxRecDepth 100000 in
set_option maxHeartbeats 4000000 in
theorem dPersistX (A : Dv) (J : Nat → List (Int × Int)) (es : Nat → Array MapEntry) (cl : Nat → Nat) (h : WF A) (r k : Nat) (hr : r < A.n) (hk : k ≤ (A.hist r).length) (hj : (jk A J r).length ≤ 1000000000) : ACalls Try.prog 31 [.loc 0 0, .p (.v (.int .i64 r)), .p (.v (.int .i64 k))] [deO A 1 2 3 4, peO A, cuO A, liO A J 12, thO A 0 0 18, thO A 1 0 18, thO A 2 0 18, thO A 3 0 18, thO A 4 0 18, thO A 5 0 18, thO A 6 0 18, thO A 7 0 18, hiO A J 0, hiO A J 1, hiO A J 2, hiO A J 3, hiO A J 4, hiO A J 5, noX es cl 0, noX es cl 1, noX es cl 2, noX es cl 3, noX es cl 4, noX es cl 5, noX es cl 6, noX es cl 7] (.p (.tup [])) [deO (A.persist r k) 1 2 3 4, peO (A.persist r k), cuO (A.persist r k), liO (A.persist r k) (jper A J r k) 26, thO (A.persist r k) 0 0 18, thO (A.persist r k) 1 0 18, thO (A.persist r k) 2 0 18, thO (A.persist r k) 3 0 18, thO (A.persist r k) 4 0 18, thO (A.persist r k) 5 0 18, thO (A.persist r k) 6 0 18, thO (A.persist r k) 7 0 18, .dead, .dead, .dead, .dead, .dead, .dead, noX es cl 0, noX es cl 1, noX es cl 2, noX es cl 3, noX es cl 4, noX es cl 5, noX es cl 6, noX es cl 7, hiO (A.persist r k) (jper A J r k) 0, hiO (A.persist r k) (jper A J r k) 1, hiO (A.persist r k) (jper A J r k) 2, hiO (A.persist r k) (jper A J r k) 3, hiO (A.persist r k) (jper A J r k) 4, hiO (A.persist r k) (jper A J r k) 5] := by
 refine acalls_of (E := E) (fn := Try.f31) 51 [] rfl rfl rfl rfl (by decide) rfl rfl ?_
 have h6 := h.n6
 have hp := h.per
 have hl := h.len r (by omega)
 have hh := h.hist r (by omega)
 have e1 : IntKind.u64.wrap (k : Int) = k := by rw [IntKind.wrap_u64]; omega
 have e2 : IntKind.u64.wrap (A.done r + k) = A.done r + k := by rw [IntKind.wrap_u64]; omega
 have ka := dApply A.per (jk A J r) (A.hist r) (8 * A.n) (jk A J r).length k hp rfl hk (by omega) (fun x hx => by have := hh x hx; omega)
 by_cases hkn : k = (A.hist r).length
 ·have jp := fun i => jk_perA A J r k i hkn
  have hd : (A.hist r).drop k = [] := List.drop_of_length_le (by omega)
  subst hkn
  have hs : r = 0 ∨ r = 1 ∨ r = 2 ∨ r = 3 ∨ r = 4 ∨ r = 5 := by omega
  rcases hs with rfl | rfl | rfl | rfl | rfl | rfl
  all_goals
   repeat' (first
    | (with_reducible first | refine r_seq ?_ | refine r_block ?_ | refine fork_not ?_ | refine fork_and ?_ | refine fork_or ?_ | refine chk_ok (by kernel_rfl) ?_)
    | ((with_reducible first | refine fork_dec ?_ ?_ | refine fork_eq ?_ ?_ | refine fork_ne ?_ ?_ | refine fork_intro ?_ ?_) <;> intro h <;> try (exfalso; first | omega | exact h rfl | (revert h; decide) | (cases h; done)))
    | ((with_reducible show False); omega)
    | ((first | (with_reducible first | refine r_exit ?_ | refine r_skip ?_ | refine r_cond ?_ | refine r_region ?_ | refine r_ret ?_ | show VX _ _ _ _ _ _ _ | show vstep _ _ _ _ _ | show vskip _ _ _ | show withV _ _) | ((with_reducible show endA _ _ _ _ _ _ _); simp -implicitDefEqProofs only [endA]) | (with_reducible first | refine pick_viewG default (by first | omega | (simp only [LN, e1, e2]; omega)) (by first | omega | (simp only [LN, e1, e2]; omega)) ?_ | refine pick_own default (by first | omega | (simp only [LN, e1, e2]; omega)) ?_ | refine And.intro (by first | decide | omega | assumption | (simp only [LN, e1, e2]; omega)) ?_) | (with_reducible first | apply callK_lent | apply callF_lent | apply hideP_own) | ((with_reducible apply callA_go); (first | exact ka | fail)) | ((with_reducible show pickE _ _ _); first | refine pickE_intro _ ⟨by omega, by rfl⟩ ?_ | refine pickE_intro _ (by rfl) ?_) | fail); try simp -dsimp -implicitDefEqProofs (maxSteps := 1000000) (disch := first | omega | (simp only [LN, e1, e2]; omega)) only [go_sem, e1, e2])
    | fail)
   refine And.intro (by split <;> (simp <;> omega)) ?_
   repeat' (first
    | (with_reducible first | refine r_seq ?_ | refine r_block ?_ | refine fork_not ?_ | refine fork_and ?_ | refine fork_or ?_ | refine chk_ok (by kernel_rfl) ?_)
    | ((with_reducible first | refine fork_dec ?_ ?_ | refine fork_eq ?_ ?_ | refine fork_ne ?_ ?_ | refine fork_intro ?_ ?_) <;> intro h <;> try (exfalso; first | omega | exact h rfl | (revert h; decide) | (cases h; done)))
    | ((with_reducible show False); omega)
    | ((first | (with_reducible first | refine r_exit ?_ | refine r_skip ?_ | refine r_cond ?_ | refine r_region ?_ | refine r_ret ?_ | show VX _ _ _ _ _ _ _ | show vstep _ _ _ _ _ | show vskip _ _ _ | show withV _ _) | ((with_reducible show endA _ _ _ _ _ _ _); simp -implicitDefEqProofs only [endA]) | (with_reducible first | refine pick_viewG default (by first | omega | (simp only [LN, e1, e2]; omega)) (by first | omega | (simp only [LN, e1, e2]; omega)) ?_ | refine pick_own default (by first | omega | (simp only [LN, e1, e2]; omega)) ?_ | refine And.intro (by first | decide | omega | assumption | (simp only [LN, e1, e2]; omega)) ?_) | (with_reducible first | apply callK_lent | apply callF_lent | apply hideP_own) | ((with_reducible apply callA_go); (first | exact ka | fail)) | ((with_reducible show pickE _ _ _); first | refine pickE_intro _ ⟨by omega, by rfl⟩ ?_ | refine pickE_intro _ (by rfl) ?_) | fail); try simp -dsimp -implicitDefEqProofs (maxSteps := 1000000) (disch := first | omega | (simp only [LN, e1, e2]; omega)) only [go_sem, e1, e2])
    | fail)
   all_goals first | omega | (simp [jp, per_hist, per_done, per_p]; done)
 ·have jp := fun i => jk_per A J r k i (by omega)
  have hs : r = 0 ∨ r = 1 ∨ r = 2 ∨ r = 3 ∨ r = 4 ∨ r = 5 := by omega
  rcases hs with rfl | rfl | rfl | rfl | rfl | rfl
  all_goals
   repeat' (first
    | (with_reducible first | refine r_seq ?_ | refine r_block ?_ | refine fork_not ?_ | refine fork_and ?_ | refine fork_or ?_ | refine chk_ok (by kernel_rfl) ?_)
    | ((with_reducible first | refine fork_dec ?_ ?_ | refine fork_eq ?_ ?_ | refine fork_ne ?_ ?_ | refine fork_intro ?_ ?_) <;> intro h <;> try (exfalso; first | omega | exact h rfl | (revert h; decide) | (cases h; done)))
    | ((with_reducible show False); omega)
    | ((first | (with_reducible first | refine r_exit ?_ | refine r_skip ?_ | refine r_cond ?_ | refine r_region ?_ | refine r_ret ?_ | show VX _ _ _ _ _ _ _ | show vstep _ _ _ _ _ | show vskip _ _ _ | show withV _ _) | ((with_reducible show endA _ _ _ _ _ _ _); simp -implicitDefEqProofs only [endA]) | (with_reducible first | refine pick_viewG default (by first | omega | (simp only [LN, e1, e2]; omega)) (by first | omega | (simp only [LN, e1, e2]; omega)) ?_ | refine pick_own default (by first | omega | (simp only [LN, e1, e2]; omega)) ?_ | refine And.intro (by first | decide | omega | assumption | (simp only [LN, e1, e2]; omega)) ?_) | (with_reducible first | apply callK_lent | apply callF_lent | apply hideP_own) | ((with_reducible apply callA_go); (first | exact ka | fail)) | ((with_reducible show pickE _ _ _); first | refine pickE_intro _ ⟨by omega, by rfl⟩ ?_ | refine pickE_intro _ (by rfl) ?_) | fail); try simp -dsimp -implicitDefEqProofs (maxSteps := 1000000) (disch := first | omega | (simp only [LN, e1, e2]; omega)) only [go_sem, e1, e2])
    | fail)
   refine And.intro (by split <;> (simp <;> omega)) ?_
   repeat' (first
    | (with_reducible first | refine r_seq ?_ | refine r_block ?_ | refine fork_not ?_ | refine fork_and ?_ | refine fork_or ?_ | refine chk_ok (by kernel_rfl) ?_)
    | ((with_reducible first | refine fork_dec ?_ ?_ | refine fork_eq ?_ ?_ | refine fork_ne ?_ ?_ | refine fork_intro ?_ ?_) <;> intro h <;> try (exfalso; first | omega | exact h rfl | (revert h; decide) | (cases h; done)))
    | ((with_reducible show False); omega)
    | ((first | (with_reducible first | refine r_exit ?_ | refine r_skip ?_ | refine r_cond ?_ | refine r_region ?_ | refine r_ret ?_ | show VX _ _ _ _ _ _ _ | show vstep _ _ _ _ _ | show vskip _ _ _ | show withV _ _) | ((with_reducible show endA _ _ _ _ _ _ _); simp -implicitDefEqProofs only [endA]) | (with_reducible first | refine pick_viewG default (by first | omega | (simp only [LN, e1, e2]; omega)) (by first | omega | (simp only [LN, e1, e2]; omega)) ?_ | refine pick_own default (by first | omega | (simp only [LN, e1, e2]; omega)) ?_ | refine And.intro (by first | decide | omega | assumption | (simp only [LN, e1, e2]; omega)) ?_) | (with_reducible first | apply callK_lent | apply callF_lent | apply hideP_own) | ((with_reducible apply callA_go); (first | exact ka | fail)) | ((with_reducible show pickE _ _ _); first | refine pickE_intro _ ⟨by omega, by rfl⟩ ?_ | refine pickE_intro _ (by rfl) ?_) | fail); try simp -dsimp -implicitDefEqProofs (maxSteps := 1000000) (disch := first | omega | (simp only [LN, e1, e2]; omega)) only [go_sem, e1, e2])
    | fail)
   all_goals first | omega | (simp [jp, per_hist, per_done, per_p, Nat.min_eq_left hk]; done)
end Go.Proofs.Ytlldhofcdfejnaa