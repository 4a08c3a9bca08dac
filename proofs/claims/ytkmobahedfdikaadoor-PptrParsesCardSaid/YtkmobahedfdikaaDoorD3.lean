/- Contracts of functions of this program, and the plain facts that they rest on. No conditions. -/
import Derived.Test.YtkmobahedfdikaaDoorD2
set_option linter.unusedSimpArgs false
set_option linter.unusedVariables false
namespace Go.Proofs.YtkmobahedfdikaaDoor
open Go Go.Ab
attribute [local irreducible] callK callF loopQ vstep vskip pickE hideP
theorem num_size (n : Int) (h0 : 0 ≤ n) (h1 : n ≤ 18446744073709551615) : (num n).size ≤ 20 := by
  have e : (num n).size = Lib.nDigits n.toNat := by
    show (Lib.decDigits n.toNat).toArray.size = _
    rw [List.size_toArray, Lib.decDigits_length]
  rw [e]
  by_cases hz : n.toNat = 0
  · rw [hz, Lib.nDigits]; simp
  · have := Lib.numDigits_eq n.toNat (by omega) (by omega)
    split at this <;> omega
theorem app_size (a b : ByteArray) : (a ++ b).size = a.size + b.size := ByteArray.size_append
def sepC : ByteArray := { data := #[58] }
def sepH : ByteArray := { data := #[35] }
def textM (p : Int) : ByteArray := num (kindM p) ++ sepC ++ num (offM p) ++ sepH ++ num (genM p)
set_option maxRecDepth 100000 in
set_option maxHeartbeats 4000000 in
theorem c27f (p : Int) (h0 : 0 ≤ p) (hf : formedM p = true) : PCalls Tryd.prog 27 [.v (.int .u64 p)] (.v (.string (textM p))) := by
  refine pcalls_of (E := E) (fn := Tryd.f27) 48 [.tmp 2] rfl rfl rfl rfl (by decide) rfl ?_
  have h1 := off_r p; have h2 := gen_r p; have h3 := kind_r p
  have s1 := num_size (kindM p) (by omega) (by omega)
  have s2 := num_size (offM p) (by omega) (by omega)
  have s3 := num_size (genM p) (by omega) (by omega)
  have hp : ¬ p = 0 := by rintro rfl; revert hf; decide
  have k1 : sepC.size = 1 := rfl
  have k2 : sepH.size = 1 := rfl
  repeat' (first
    | (with_reducible first | refine r_seq ?_ | refine r_block ?_ | refine fork_not ?_ | refine fork_and ?_ | refine fork_or ?_ | refine chk_ok (by kernel_rfl) ?_)
    | ((with_reducible first | refine fork_dec ?_ ?_ | refine fork_eq ?_ ?_ | refine fork_ne ?_ ?_ | refine fork_intro ?_ ?_) <;> intro h)
    | ((with_reducible show False); omega)
    | ((first | (with_reducible first | refine r_exit ?_ | refine r_skip ?_ | refine r_cond ?_ | refine r_region ?_ | show VX _ _ _ _ _ _ _ | show vstep _ _ _ _ _ | show vskip _ _ _ | show withV _ _) | ((with_reducible show endA _ _ _ _ _ _ _); simp -implicitDefEqProofs only [endA])); simp -dsimp -implicitDefEqProofs (maxSteps := 1000000) (disch := first | omega | (simp only [LN, hf, hp, wrap_u64]; omega)) only [go_sem, Int.reduceToNat, Int.reducePow, Nat.reducePow, Int.reduceAdd, Int.reduceMul, Int.reduceSub, Int.reduceNeg, Nat.reduceAdd, Nat.reduceMul, Nat.reduceSub, Nat.reduceEqDiff, Nat.reduceLT, Nat.reduceLeDiff, hf, hp, wrap_u64])
    | ((first | (with_reducible refine r_ret ?_) | (with_reducible refine pick_viewG default (by first | omega | (simp only [LN, hf, hp, wrap_u64]; omega)) (by first | omega | (simp only [LN, hf, hp, wrap_u64]; omega)) ?_) | (with_reducible refine pick_own default (by first | omega | (simp only [LN, hf, hp, wrap_u64]; omega)) ?_) | (with_reducible refine And.intro (by first | decide | omega | assumption | (simp only [LN, hf, hp, wrap_u64]; omega)) ?_) | ((with_reducible apply callK_pure); (first | exact c21 p | exact c31 p h0 | exact c17 p h0 | exact c18 p h0 | exact c16 p h0 | exact c32 (kindM p) (by omega) (by omega) | exact c32 (offM p) (by omega) (by omega) | exact c32 (genM p) (by omega) (by omega) | fail)) | ((with_reducible apply callF_lend); (first | exact c21 p | exact c31 p h0 | exact c17 p h0 | exact c18 p h0 | exact c16 p h0 | exact c32 (kindM p) (by omega) (by omega) | exact c32 (offM p) (by omega) (by omega) | exact c32 (genM p) (by omega) (by omega) | fail); rfl) | ((with_reducible apply callF_go); (first | exact c21 p | exact c31 p h0 | exact c17 p h0 | exact c18 p h0 | exact c16 p h0 | exact c32 (kindM p) (by omega) (by omega) | exact c32 (offM p) (by omega) (by omega) | exact c32 (genM p) (by omega) (by omega) | fail)) | ((with_reducible show pickE _ _ _); first | refine pickE_intro _ ⟨by omega, by rfl⟩ ?_ | refine pickE_intro _ (by rfl) ?_) | fail); try simp -dsimp -implicitDefEqProofs (maxSteps := 1000000) (disch := first | omega | (simp only [LN, hf, hp, wrap_u64]; omega)) only [go_sem, Int.reduceToNat, Int.reducePow, Nat.reducePow, Int.reduceAdd, Int.reduceMul, Int.reduceSub, Int.reduceNeg, Nat.reduceAdd, Nat.reduceMul, Nat.reduceSub, Nat.reduceEqDiff, Nat.reduceLT, Nat.reduceLeDiff, hf, hp, wrap_u64])
    | fail)
  all_goals rfl
theorem num1 : num 64 = { data := #[54, 52] } := by simp [num, Lib.decDigits]
theorem num2 : num 4096 = { data := #[52, 48, 57, 54] } := by simp [num, Lib.decDigits]
theorem num3 : num 3 = { data := #[51] } := by simp [num, Lib.decDigits]
theorem aw1 : makeM 4096 3 64 = (18014411394384384, 0) := by decide
theorem aw2 : makeM 12 1 1 = (0, 1) := by decide
theorem aw3 : formedM 18014411394384384 = true := by decide
theorem aw4 : relocM 18014411394384384 (-4096) = (0, 2) := by decide
theorem aw5 : atM 18014411394384384 2 = 4112 := by decide
theorem aw6 : textM 18014411394384384 = { data := #[54, 52, 58, 52, 48, 57, 54, 35, 51] } := by
  have e1 : kindM 18014411394384384 = 64 := by decide
  have e2 : offM 18014411394384384 = 4096 := by decide
  have e3 : genM 18014411394384384 = 3 := by decide
  simp only [textM, e1, e2, e3, num1, num2, num3]
  rfl
set_option maxRecDepth 100000 in
set_option maxHeartbeats 4000000 in
theorem c12  : PCalls Tryd.prog 12 [] (.v (.bool true)) := by
  refine pcalls_of (E := E) (fn := Tryd.f12) 40 [.tmp 0] rfl rfl rfl rfl (by decide) rfl ?_
  repeat' (first
    | (with_reducible first | refine r_seq ?_ | refine r_block ?_ | refine fork_not ?_ | refine fork_and ?_ | refine fork_or ?_ | refine chk_ok (by kernel_rfl) ?_)
    | ((with_reducible first | refine fork_dec ?_ ?_ | refine fork_eq ?_ ?_ | refine fork_ne ?_ ?_ | refine fork_intro ?_ ?_) <;> intro h)
    | ((with_reducible show False); omega)
    | ((first | (with_reducible first | refine r_exit ?_ | refine r_skip ?_ | refine r_cond ?_ | refine r_region ?_ | show VX _ _ _ _ _ _ _ | show vstep _ _ _ _ _ | show vskip _ _ _ | show withV _ _) | ((with_reducible show endA _ _ _ _ _ _ _); simp -implicitDefEqProofs only [endA])); simp -dsimp -implicitDefEqProofs (maxSteps := 1000000) (disch := first | omega | (simp only [LN, aw1, aw2, aw4, aw5, aw6]; omega)) only [go_sem, Int.reduceToNat, Int.reducePow, Nat.reducePow, Int.reduceAdd, Int.reduceMul, Int.reduceSub, Int.reduceNeg, Nat.reduceAdd, Nat.reduceMul, Nat.reduceSub, Nat.reduceEqDiff, Nat.reduceLT, Nat.reduceLeDiff, aw1, aw2, aw4, aw5, aw6])
    | ((first | (with_reducible refine r_ret ?_) | (with_reducible refine pick_viewG default (by first | omega | (simp only [LN, aw1, aw2, aw4, aw5, aw6]; omega)) (by first | omega | (simp only [LN, aw1, aw2, aw4, aw5, aw6]; omega)) ?_) | (with_reducible refine pick_own default (by first | omega | (simp only [LN, aw1, aw2, aw4, aw5, aw6]; omega)) ?_) | (with_reducible refine And.intro (by first | decide | omega | assumption | (simp only [LN, aw1, aw2, aw4, aw5, aw6]; omega)) ?_) | ((with_reducible apply callK_pure); (first | exact c19 4096 3 64 (by omega) (by omega) (by omega) | exact c19 12 1 1 (by omega) (by omega) (by omega) | exact c14 18014411394384384 (-4096) (by omega) (by omega) | exact c27f 18014411394384384 (by omega) aw3 | exact c11 18014411394384384 2 (by omega) (by omega) | fail)) | ((with_reducible apply callF_lend); (first | exact c19 4096 3 64 (by omega) (by omega) (by omega) | exact c19 12 1 1 (by omega) (by omega) (by omega) | exact c14 18014411394384384 (-4096) (by omega) (by omega) | exact c27f 18014411394384384 (by omega) aw3 | exact c11 18014411394384384 2 (by omega) (by omega) | fail); rfl) | ((with_reducible apply callF_go); (first | exact c19 4096 3 64 (by omega) (by omega) (by omega) | exact c19 12 1 1 (by omega) (by omega) (by omega) | exact c14 18014411394384384 (-4096) (by omega) (by omega) | exact c27f 18014411394384384 (by omega) aw3 | exact c11 18014411394384384 2 (by omega) (by omega) | fail)) | ((with_reducible show pickE _ _ _); first | refine pickE_intro _ ⟨by omega, by rfl⟩ ?_ | refine pickE_intro _ (by rfl) ?_) | fail); try simp -dsimp -implicitDefEqProofs (maxSteps := 1000000) (disch := first | omega | (simp only [LN, aw1, aw2, aw4, aw5, aw6]; omega)) only [go_sem, Int.reduceToNat, Int.reducePow, Nat.reducePow, Int.reduceAdd, Int.reduceMul, Int.reduceSub, Int.reduceNeg, Nat.reduceAdd, Nat.reduceMul, Nat.reduceSub, Nat.reduceEqDiff, Nat.reduceLT, Nat.reduceLeDiff, aw1, aw2, aw4, aw5, aw6])
    | fail)
  all_goals first | rfl | exact absurd rfl ‹¬ _›
end Go.Proofs.YtkmobahedfdikaaDoor
