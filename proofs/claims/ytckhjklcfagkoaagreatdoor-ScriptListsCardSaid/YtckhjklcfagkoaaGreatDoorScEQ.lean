/- Contracts of functions of this program, and the plain facts that they rest on. No conditions. -/
import Derived.Test.YtckhjklcfagkoaaGreatDoorScBQ
import Derived.Test.YtckhjklcfagkoaaGreatDoorAc4
import Derived.Lib.ItoaMem
set_option linter.unusedSimpArgs false
set_option linter.unusedVariables false
namespace Go.Proofs.YtckhjklcfagkoaaGreatDoor
open Go Go.Ab
attribute [local irreducible] callK callF loopQ vstep vskip pickE hideP
open Go.RowKit
set_option maxRecDepth 100000
attribute [local go_sem] bs_inj ext_bs byteAt_bs
attribute [local irreducible] numL
theorem lSmall (u : Nat) (h : u < 100) : PCalls Tryz.prog 125 [.v (.int .i64 u)] (.v (.string (bs (Lib.decDigits u)))) := by
 refine pcalls_val ⟨_, rfl, rfl, by decide⟩ (u := .string (bs (Lib.decDigits u))) (fun Z w => by simp [Rep, oneB]) fun Z w vals hz hv => ?_
 have e : vals = [.int .i64 u] := by
  simp only [Reps, Rep] at hv
  obtain ⟨_, _, rfl, ⟨rfl, _⟩, rfl⟩ := hv
  rfl
 subst e
 exact (Tryz.internal_strconv_small u h w).mono fun e w' ⟨he, hw⟩ => ⟨he, by rw [hw]; exact Below.refl _ _⟩
theorem lNumD (u : Nat) (h1 : 1 ≤ u) (h2 : u ≤ 18446744073709551615) : PCalls Tryz.prog 126 [.v (.int .u64 u)] (.v (.int .i64 (Lib.nDigits u))) := by
 refine pcalls_val ⟨_, rfl, rfl, by decide⟩ (u := .int .i64 (Lib.nDigits u)) (fun Z w => by simp [Rep, oneB]) fun Z w vals hz hv => ?_
 have e : vals = [.int .u64 u] := by
  simp only [Reps, Rep] at hv
  obtain ⟨_, _, rfl, ⟨rfl, _⟩, rfl⟩ := hv
  rfl
 subst e
 exact (Tryz.internal_strconv_numDigits u h1 (by omega) w hz.gl.2.1).mono fun e w' ⟨he, hw⟩ => ⟨he, by rw [hw]; exact Below.refl _ _⟩
theorem lFB (u : Nat) (h2 : u ≤ 18446744073709551615) : ACalls Tryz.prog 127 [.sl 0 1 0 (Lib.nDigits u), .p (.v (.int .u64 u))] [.arr 1 ((List.replicate 24 0).map eB)] (.p (.tup [])) [.arr 1 ((Lib.decDigits u ++ (List.replicate 24 0).drop (Lib.nDigits u)).map eB)] := by
 have h20 := Lib.nDigits_le20 u (by omega)
 refine ac_fill ⟨_, rfl, rfl, by decide⟩ _ (Lib.decDigits u) _ (by simp; omega) (Lib.decDigits_length u) (Lib.nDigits_pos u) (.int .u64 u) fun b cap w hH _ => ?_
 have hs : ((List.replicate 24 (0 : UInt8)).take (Lib.nDigits u)).toArray.size = Lib.nDigits u := by simp; omega
 have := Tryz.internal_strconv_formatBase10 b 0 cap u _ w hH (by rw [hs]; exact Lib.lt_pow_nDigits u) (by omega) (by rw [hs]; omega)
 rw [hs] at this
 refine this.mono ?_
 rintro e w' ⟨rfl, n, v', dk, rfl, hF⟩
 refine ⟨rfl, n, ?_⟩
 have e : dk = (Lib.decDigits u).toArray := by
  apply Array.ext
  ·rw [hF.size]; simp [Lib.decDigits_length]
  ·intro j h1 h3
   have h4 : j < (Lib.decDigits u).length := by simpa using h3
   have := Lib.row_is_numeral hF j h4
   rw [getElem!_pos dk j h1] at this
   rw [← this]; rfl
 rw [e]
theorem take_dec (u : Nat) (X : List UInt8) : ((Lib.decDigits u ++ X).map eB).take (Lib.nDigits u) = (Lib.decDigits u).map eB := by
 rw [List.map_append, List.take_left' (by rw [List.length_map, Lib.decDigits_length])]
theorem take_dec2 (u : Nat) (X : List PV) : ((Lib.decDigits u).map eB ++ X).take (Lib.nDigits u) = (Lib.decDigits u).map eB := by
 rw [List.take_left' (by rw [List.length_map, Lib.decDigits_length])]
set_option maxRecDepth 100000 in
set_option maxHeartbeats 4000000 in
theorem lApp0 (p : List UInt8) (u : Nat) (h2 : u ≤ 18446744073709551615) (hp : p.length ≤ 1000000) : ACalls Tryz.prog 114 [.sl 0 1 0 p.length, .p (.v (.int .u64 u)), .p (.v (.int .i64 10))] [.arr 1 (p.map eB)] (.sl 1 1 0 (p ++ Lib.decDigits u).length) [.dead, .arr 1 ((p ++ Lib.decDigits u).map eB)] := by
 refine acalls_of (E := E) (fn := Tryz.f114) 36 [.tmp 6] rfl rfl rfl rfl (by decide) rfl rfl ?_
 have hl := Lib.decDigits_length u
 have h20 := Lib.nDigits_le20 u (by omega)
 by_cases hs : u < 100
 ·have e1 : IntKind.i64.wrap (u : Int) = u := by rw [IntKind.wrap_i64]; omega
  repeat' (first
   | (with_reducible first | refine r_seq ?_ | refine r_block ?_ | refine fork_not ?_ | refine fork_and ?_ | refine fork_or ?_ | refine chk_ok (by kernel_rfl) ?_)
   | ((with_reducible first | refine fork_dec ?_ ?_ | refine fork_eq ?_ ?_ | refine fork_ne ?_ ?_ | refine fork_intro ?_ ?_) <;> intro h <;> try (exfalso; first | omega | exact h rfl | (revert h; decide) | (cases h; done)))
   | ((with_reducible show False); omega)
   | ((first | (with_reducible first | refine r_exit ?_ | refine r_skip ?_ | refine r_cond ?_ | refine r_region ?_ | refine r_ret ?_ | show VX _ _ _ _ _ _ _ | show vstep _ _ _ _ _ | show vskip _ _ _ | show withV _ _) | ((with_reducible show endA _ _ _ _ _ _ _); simp -implicitDefEqProofs only [endA]) | (with_reducible first | refine pick_viewG default (by first | omega | (simp only [LN, e1, hl]; omega)) (by first | omega | (simp only [LN, e1, hl]; omega)) ?_ | refine pick_own default (by first | omega | (simp only [LN, e1, hl]; omega)) ?_ | refine And.intro (by first | decide | omega | assumption | (simp only [LN, e1, hl]; omega)) ?_) | ((with_reducible apply callK_pure); (exact lSmall u hs)) | ((with_reducible apply callF_lend); (exact lSmall u hs); rfl) | ((with_reducible apply callF_go); (exact lSmall u hs)) | ((with_reducible show pickE _ _ _); first | refine pickE_intro _ ⟨by omega, by rfl⟩ ?_ | refine pickE_intro _ (by rfl) ?_) | fail); try simp -dsimp -implicitDefEqProofs (maxSteps := 1000000) (disch := first | omega | (simp only [LN, e1, hl]; omega)) only [go_sem, e1, hl])
   | fail)
  all_goals first | omega
 ·have k1 := lNumD u (by omega) h2
  have k2 := lFB u h2
  have k3 := take_dec u ((List.replicate 24 0).drop (Lib.nDigits u))
  have k4 : (List.replicate 24 (0 : UInt8)).length = 24 := rfl
  have k5 : (Lib.decDigits u ++ (List.replicate 24 (0 : UInt8)).drop (Lib.nDigits u)).length = 24 := by simp [hl]; omega
  repeat' ((fail_if_success (with_reducible show awp _ _ (Code.region 5 _ _) _ _)); first
   | (with_reducible first | refine r_seq ?_ | refine r_block ?_ | refine fork_not ?_ | refine fork_and ?_ | refine fork_or ?_ | refine chk_ok (by kernel_rfl) ?_)
   | ((with_reducible first | refine fork_dec ?_ ?_ | refine fork_eq ?_ ?_ | refine fork_ne ?_ ?_ | refine fork_intro ?_ ?_) <;> intro h <;> try (exfalso; first | omega | exact h rfl | (revert h; decide) | (cases h; done)))
   | ((with_reducible show False); omega)
   | ((first | (with_reducible first | refine r_exit ?_ | refine r_skip ?_ | refine r_cond ?_ | refine r_region ?_ | refine r_ret ?_ | show VX _ _ _ _ _ _ _ | show vstep _ _ _ _ _ | show vskip _ _ _ | show withV _ _) | ((with_reducible show endA _ _ _ _ _ _ _); simp -implicitDefEqProofs only [endA]) | (with_reducible first | refine pick_viewG default (by first | omega | (simp only [LN]; omega)) (by first | omega | (simp only [LN]; omega)) ?_ | refine pick_own default (by first | omega | (simp only [LN]; omega)) ?_ | refine And.intro (by first | decide | omega | assumption | (simp only [LN]; omega)) ?_) | ((with_reducible show pickE _ _ _); first | refine pickE_intro _ ⟨by omega, by rfl⟩ ?_ | refine pickE_intro _ (by rfl) ?_) | fail); try simp -dsimp -implicitDefEqProofs (maxSteps := 1000000) (disch := first | omega | (simp only [LN]; omega)) only [go_sem])
   | fail)
  refine r_arr 1 (List.replicate 24 0) rfl (by decide) ?_
  simp -dsimp -implicitDefEqProofs (maxSteps := 1000000) (disch := first | omega | (simp only [LN]; omega)) only [go_sem]
  repeat' (first
   | (with_reducible first | refine r_seq ?_ | refine r_block ?_ | refine fork_not ?_ | refine fork_and ?_ | refine fork_or ?_ | refine chk_ok (by kernel_rfl) ?_)
   | ((with_reducible first | refine fork_dec ?_ ?_ | refine fork_eq ?_ ?_ | refine fork_ne ?_ ?_ | refine fork_intro ?_ ?_) <;> intro h <;> try (exfalso; first | omega | exact h rfl | (revert h; decide) | (cases h; done)))
   | ((with_reducible show False); omega)
   | ((first | (with_reducible first | refine r_exit ?_ | refine r_skip ?_ | refine r_cond ?_ | refine r_region ?_ | refine r_ret ?_ | show VX _ _ _ _ _ _ _ | show vstep _ _ _ _ _ | show vskip _ _ _ | show withV _ _) | ((with_reducible show endA _ _ _ _ _ _ _); simp -implicitDefEqProofs only [endA]) | (with_reducible first | refine pick_viewG default (by first | omega | (simp only [LN, hl, k3, k4, k5]; omega)) (by first | omega | (simp only [LN, hl, k3, k4, k5]; omega)) ?_ | refine pick_own default (by first | omega | (simp only [LN, hl, k3, k4, k5]; omega)) ?_ | refine And.intro (by first | decide | omega | assumption | (simp only [LN, hl, k3, k4, k5]; omega)) ?_) | ((with_reducible apply callK_pure); (exact k1)) | ((with_reducible apply callF_lend); (exact k1); rfl) | ((with_reducible apply callF_go); (exact k1)) | (with_reducible first | apply callK_lent | apply callF_lent | apply hideP_own) | ((with_reducible apply callA_go); (first | exact k2 | fail)) | ((with_reducible show pickE _ _ _); first | refine pickE_intro _ ⟨by omega, by rfl⟩ ?_ | refine pickE_intro _ (by rfl) ?_) | fail); try simp -dsimp -implicitDefEqProofs (maxSteps := 1000000) (disch := first | omega | (simp only [LN, hl, k3, k4, k5]; omega)) only [go_sem, hl, k3, k4, k5])
   | fail)
  all_goals first | omega | exact .inl (by rw [take_dec2])
set_option maxRecDepth 100000 in
set_option maxHeartbeats 4000000 in
theorem lApp (p : List UInt8) (n : Int) (h : 0 ≤ n ∧ n ≤ 18446744073709551615) (hp : p.length ≤ 1000000) : ACalls Tryz.prog 108 [.sl 0 1 0 p.length, .p (.v (.int .u64 n)), .p (.v (.int .i64 10))] [.arr 1 (p.map eB)] (.sl 1 1 0 (p ++ numL n).length) [.dead, .arr 1 ((p ++ numL n).map eB)] := by
 refine acalls_of (E := E) (fn := Tryz.f108) 11 [.tmp 6] rfl rfl rfl rfl (by decide) rfl rfl ?_
 have k := lApp0 p n.toNat (by omega) hp
 rw [show ((n.toNat : Nat) : Int) = n by omega, ← numL_pos h.1] at k
 repeat' (first
  | (with_reducible first | refine r_seq ?_ | refine r_block ?_ | refine fork_not ?_ | refine fork_and ?_ | refine fork_or ?_ | refine chk_ok (by kernel_rfl) ?_)
  | ((with_reducible first | refine fork_dec ?_ ?_ | refine fork_eq ?_ ?_ | refine fork_ne ?_ ?_ | refine fork_intro ?_ ?_) <;> intro h <;> try (exfalso; first | omega | exact h rfl | (revert h; decide) | (cases h; done)))
  | ((with_reducible show False); omega)
  | ((first | (with_reducible first | refine r_exit ?_ | refine r_skip ?_ | refine r_cond ?_ | refine r_region ?_ | refine r_ret ?_ | show VX _ _ _ _ _ _ _ | show vstep _ _ _ _ _ | show vskip _ _ _ | show withV _ _) | ((with_reducible show endA _ _ _ _ _ _ _); simp -implicitDefEqProofs only [endA]) | (with_reducible first | refine pick_viewG default (by first | omega | (simp only [LN]; omega)) (by first | omega | (simp only [LN]; omega)) ?_ | refine pick_own default (by first | omega | (simp only [LN]; omega)) ?_ | refine And.intro (by first | decide | omega | assumption | (simp only [LN]; omega)) ?_) | (with_reducible first | apply callK_lent | apply callF_lent | apply hideP_own) | ((with_reducible apply callA_go); (first | exact k | fail)) | ((with_reducible show pickE _ _ _); first | refine pickE_intro _ ⟨by omega, by rfl⟩ ?_ | refine pickE_intro _ (by rfl) ?_) | fail); try simp -dsimp -implicitDefEqProofs (maxSteps := 1000000) (disch := first | omega | (simp only [LN]; omega)) only [go_sem])
  | fail)
end Go.Proofs.YtckhjklcfagkoaaGreatDoor