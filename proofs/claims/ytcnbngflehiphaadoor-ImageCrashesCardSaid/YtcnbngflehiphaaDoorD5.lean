/- Contracts of functions of this program, and the plain facts that they rest on. No conditions. -/
import Derived.Test.YtcnbngflehiphaaDoorD4
set_option linter.unusedSimpArgs false
set_option linter.unusedVariables false
namespace Go.Proofs.YtcnbngflehiphaaDoor
open Go Go.Ab
attribute [local irreducible] callK callF loopQ vstep vskip pickE hideP
attribute [local go_sem] eI
set_option maxRecDepth 100000
def z128 : List UInt8 := zerosM 128
def z64 : List UInt8 := zerosM 64
def z5 : List UInt8 := zerosM 64 ++ [5] ++ zerosM 63
theorem c14z : PCalls Tryd.prog 14 [.view 1 (List.replicate 128 (.v (.int .u8 0)))] (.tup [eI z128, .v (.int .i64 0)]) := by
 have := c14 z128
 rw [show z128.map eB = List.replicate 128 (.v (.int .u8 0)) from rfl, show newM z128 = z128 by decide, show newE z128 = 0 by decide] at this
 exact this
theorem c25z : PCalls Tryd.prog 25 [eI z128, .v (.int .u64 64), .v (.int .u64 5)] (.tup [eI z5, .v (.int .i64 0)]) := by
 have := c25 z128 64 5 (by decide) (by decide) (by decide) (by decide)
 rw [show withM z128 64 5 = z5 by decide, show checkM z128 64 = 0 by decide] at this
 exact this
theorem c15z : PCalls Tryd.prog 15 [eI z128] (.v (.int .i64 2)) := by
 have := c15 z128 (by decide)
 rw [show (z128.length / 64 : Nat) = 2 by decide] at this
 exact this
theorem c19z : PCalls Tryd.prog 19 [eI z128, .v (.int .i64 1)] (.tup [eI z64, .v (.int .i64 0)]) := by
 have := c19 z128 1 (by decide) (by decide)
 rw [show resM z128 1 = z64 by decide] at this
 exact this
def d1 : List Nat := [1]
theorem d1_len : d1.length = 1 := rfl
theorem d1_get : d1[0]? = some 1 := rfl
theorem d1_getD (x : Nat) : d1.getD 0 x = 1 := rfl
theorem c23z : PCalls Tryd.prog 23 [eI z64, eI z128] (.view 1 (d1.map eN)) := by
 have := c23 z64 z128 (by decide) (by decide)
 rw [show diffM z64 z128 (max (z64.length / 64) (z128.length / 64)) = d1 by decide] at this
 exact this
theorem num2 : numL 2 = [50] := by simp [numL, Lib.decDigits]
theorem num1 : numL 1 = [49] := by simp [numL, Lib.decDigits]
theorem text5 : textM z5 = [108, 105, 110, 101, 115, 32, 50, 10, 49, 58, 32, 48, 48, 48, 48, 48, 48, 48, 48, 48, 48, 48, 48, 48, 48, 48, 53, 32, 48, 48, 48, 48, 48, 48, 48, 48, 48, 48, 48, 48, 48, 48, 48, 48, 32, 48, 48, 48, 48, 48, 48, 48, 48, 48, 48, 48, 48, 48, 48, 48, 48, 32, 48, 48, 48, 48, 48, 48, 48, 48, 48, 48, 48, 48, 48, 48, 48, 48, 32, 48, 48, 48, 48, 48, 48, 48, 48, 48, 48, 48, 48, 48, 48, 48, 48, 32, 48, 48, 48, 48, 48, 48, 48, 48, 48, 48, 48, 48, 48, 48, 48, 48, 32, 48, 48, 48, 48, 48, 48, 48, 48, 48, 48, 48, 48, 48, 48, 48, 48, 32, 48, 48, 48, 48, 48, 48, 48, 48, 48, 48, 48, 48, 48, 48, 48, 48, 10] := by
 have h1 : headM z5 = [108, 105, 110, 101, 115, 32] ++ numL 2 ++ [10] := by rw [headM, show z5.length / 64 = 2 by decide]
 have h2 : rowM z5 0 = [] := by rw [rowM, if_pos (by decide)]
 have h3 : rowM z5 1 = numL 1 ++ [58] ++ wordsM z5 1 8 ++ [10] := by rw [rowM, if_neg (by decide)]
 rw [textM, show z5.length / 64 = 2 by decide, linesM, linesM, linesM, h1, h2, h3, num2, num1, show wordsM z5 1 8 = [32, 48, 48, 48, 48, 48, 48, 48, 48, 48, 48, 48, 48, 48, 48, 48, 53, 32, 48, 48, 48, 48, 48, 48, 48, 48, 48, 48, 48, 48, 48, 48, 48, 48, 32, 48, 48, 48, 48, 48, 48, 48, 48, 48, 48, 48, 48, 48, 48, 48, 48, 32, 48, 48, 48, 48, 48, 48, 48, 48, 48, 48, 48, 48, 48, 48, 48, 48, 32, 48, 48, 48, 48, 48, 48, 48, 48, 48, 48, 48, 48, 48, 48, 48, 48, 32, 48, 48, 48, 48, 48, 48, 48, 48, 48, 48, 48, 48, 48, 48, 48, 48, 32, 48, 48, 48, 48, 48, 48, 48, 48, 48, 48, 48, 48, 48, 48, 48, 48, 32, 48, 48, 48, 48, 48, 48, 48, 48, 48, 48, 48, 48, 48, 48, 48, 48] by kernel_rfl]
 rfl
theorem c30z : PCalls Tryd.prog 30 [eI z5] (.v (.string (bs (textM z5)))) := c30 z5 (by decide)
set_option maxRecDepth 100000 in
set_option maxHeartbeats 4000000 in
theorem c13  : PCalls Tryd.prog 13 [] (.v (.bool true)) := by
 refine pcalls_of (E := E) (fn := Tryd.f13) 51 [.tmp 0] rfl rfl rfl rfl (by decide) rfl ?_
 repeat' (first
  | (with_reducible first | refine r_seq ?_ | refine r_block ?_ | refine fork_not ?_ | refine fork_and ?_ | refine fork_or ?_ | refine chk_ok (by kernel_rfl) ?_)
  | ((with_reducible first | refine fork_dec ?_ ?_ | refine fork_eq ?_ ?_ | refine fork_ne ?_ ?_ | refine fork_intro ?_ ?_) <;> intro h)
  | ((with_reducible show False); omega)
  | ((first | (with_reducible first | refine r_exit ?_ | refine r_skip ?_ | refine r_cond ?_ | refine r_region ?_ | refine r_ret ?_ | show VX _ _ _ _ _ _ _ | show vstep _ _ _ _ _ | show vskip _ _ _ | show withV _ _) | ((with_reducible show endA _ _ _ _ _ _ _); simp -implicitDefEqProofs only [endA]) | (with_reducible first | refine pick_viewG default (by first | omega | (simp only [LN, d1_len, d1_get, d1_getD, eN]; omega)) (by first | omega | (simp only [LN, d1_len, d1_get, d1_getD, eN]; omega)) ?_ | refine pick_own default (by first | omega | (simp only [LN, d1_len, d1_get, d1_getD, eN]; omega)) ?_ | refine And.intro (by first | decide | omega | assumption | (simp only [LN, d1_len, d1_get, d1_getD, eN]; omega)) ?_) | ((with_reducible apply callK_pure); (first | exact c14z | exact c25z | exact c15z | exact c19z | exact c23z | exact c30z | fail)) | ((with_reducible apply callF_lend); (first | exact c14z | exact c25z | exact c15z | exact c19z | exact c23z | exact c30z | fail); rfl) | ((with_reducible apply callF_go); (first | exact c14z | exact c25z | exact c15z | exact c19z | exact c23z | exact c30z | fail)) | ((with_reducible show pickE _ _ _); first | refine pickE_intro _ ⟨by omega, by rfl⟩ ?_ | refine pickE_intro _ (by rfl) ?_) | fail); try simp -dsimp -implicitDefEqProofs (maxSteps := 1000000) (disch := first | omega | (simp only [LN, d1_len, d1_get, d1_getD, eN]; omega)) only [go_sem, d1_len, d1_get, d1_getD, eN])
  | fail)
 all_goals first
  | (exact absurd (text5.trans rfl) (by assumption))
  | rfl
end Go.Proofs.YtcnbngflehiphaaDoor