/- Contracts of functions of this program, and the plain facts that they rest on. No conditions. -/
import Derived.Test.YtlldhofcdfejnaaTpAQ
import Derived.Test.YtlldhofcdfejnaaTpHQ
import Derived.Test.YtlldhofcdfejnaaDvSQ
set_option linter.unusedSimpArgs false
set_option linter.unusedVariables false
namespace Go.Proofs.Ytlldhofcdfejnaa
open Go Go.Ab
attribute [local irreducible] callK callF loopQ vstep vskip pickE hideP
set_option maxRecDepth 100000
def byB (ws : List Int) (m : Nat) : List UInt8 := (List.range m).map fun j => UInt8.ofNat (byW ws j).toNat
theorem byB_len (ws : List Int) (m : Nat) : (byB ws m).length = m := by simp [byB]
theorem byB_take (ws : List Int) (m : Nat) : (byB ws m).take m = byB ws m := List.take_of_length_le (by rw [byB_len]; exact Nat.le_refl m)
theorem dirL_lt (A : Dv) {n x : Nat} (h : x ∈ dirL A n) : x < n := List.mem_range.1 (List.mem_filter.1 h).1
theorem byL_b (ws : List Int) (m : Nat) : byL ws m m = (byB ws m).map eB := by
 unfold byL byB
 rw [List.map_map]
 apply List.map_congr_left
 intro j hj
 rw [if_pos (List.mem_range.1 hj)]
 show _ = eB _
 unfold eB
 have h0 : 0 ≤ byW ws j ∧ byW ws j < 256 := by unfold byW; rw [IntKind.wrap_u8]; omega
 generalize hx : byW ws j = x at *
 congr 2
 rw [UInt8.toNat_ofNat', hx]; omega
def hsL (A : Dv) (i : Nat) : Hs := ((dirL A A.n).take i).map A.hist
theorem hsL_s (A : Dv) {i : Nat} (hi : i < (dirL A A.n).length) : hsL A (i + 1) = hsL A i ++ [A.hist ((dirL A A.n).getD i default)] := by
 unfold hsL; rw [take_getD default hi, List.map_append]; rfl
theorem hsL_len (A : Dv) {i : Nat} (hi : i ≤ (dirL A A.n).length) : (hsL A i).length = i := by
 unfold hsL; rw [List.length_map, List.length_take]; omega
attribute [local go_sem] eHs eSet eNd eWr eU deO peO cuO liO thO hiO noO
set_option maxRecDepth 100000 in
set_option maxHeartbeats 4000000 in
theorem kExam (A : Dv) (J : Nat → List (Int × Int)) (N : Nat) (h : Inv A J N) (hN : N ≤ 1000000000) : ACalls Try.prog 19 [.loc 0 0] [deO A 1 2 3 4, peO A, cuO A, liO A J 12, thO A 0 0 18, thO A 1 0 18, thO A 2 0 18, thO A 3 0 18, thO A 4 0 18, thO A 5 0 18, thO A 6 0 18, thO A 7 0 18, hiO A J 0, hiO A J 1, hiO A J 2, hiO A J 3, hiO A J 4, hiO A J 5, noO A 0, noO A 1, noO A 2, noO A 3, noO A 4, noO A 5, noO A 6, noO A 7] (.p (eSet (byB A.per (64 * A.n)) (dirL A A.n) (hsL A (dirL A A.n).length))) [deO A 1 2 3 4, peO A, cuO A, liO A J 12, thO A 0 0 18, thO A 1 0 18, thO A 2 0 18, thO A 3 0 18, thO A 4 0 18, thO A 5 0 18, thO A 6 0 18, thO A 7 0 18, hiO A J 0, hiO A J 1, hiO A J 2, hiO A J 3, hiO A J 4, hiO A J 5, noO A 0, noO A 1, noO A 2, noO A 3, noO A 4, noO A 5, noO A 6, noO A 7] := by
 refine acalls_of (E := E) (fn := Try.f19) 28 [.cell 2 55] rfl rfl rfl rfl (by decide) rfl rfl ?_
 have h6 := h.wf.n6
 have k1 := dPers6 A J h.wf
 have k2 := dDirty6 A J h.wf
 have dl := dirL_len A A.n
 rw [byL_b] at k1
 repeat' (first
  | (with_reducible first | refine r_seq ?_ | refine r_block ?_ | refine fork_not ?_ | refine fork_and ?_ | refine fork_or ?_ | refine chk_ok (by kernel_rfl) ?_)
  | ((with_reducible first | refine fork_dec ?_ ?_ | refine fork_eq ?_ ?_ | refine fork_ne ?_ ?_ | refine fork_intro ?_ ?_) <;> intro h <;> try (exfalso; first | omega | exact h rfl | (revert h; decide) | (cases h; done)))
  | ((with_reducible show False); omega)
  | ((first | (with_reducible first | refine r_exit ?_ | refine r_skip ?_ | refine r_cond ?_ | refine r_region ?_ | refine r_ret ?_ | show VX _ _ _ _ _ _ _ | show vstep _ _ _ _ _ | show vskip _ _ _ | show withV _ _) | ((with_reducible show endA _ _ _ _ _ _ _); simp -implicitDefEqProofs only [endA]) | (with_reducible first | refine pick_viewG default (by first | omega | (simp only [LN]; omega)) (by first | omega | (simp only [LN]; omega)) ?_ | refine pick_own default (by first | omega | (simp only [LN]; omega)) ?_ | refine And.intro (by first | decide | omega | assumption | (simp only [LN]; omega)) ?_) | (with_reducible first | apply callK_lent | apply callF_lent | apply hideP_own) | ((with_reducible apply callA_go); (first | exact k1 | exact k2 | fail)) | ((with_reducible show pickE _ _ _); first | refine pickE_intro _ ⟨by omega, by rfl⟩ ?_ | refine pickE_intro _ (by rfl) ?_) | fail); try simp -dsimp -implicitDefEqProofs (maxSteps := 1000000) (disch := first | omega | (simp only [LN]; omega)) only [go_sem])
  | fail)
 refine r_loopA (α := Nat) [0, 2, 3, 13] (fun i b => [(14, aI i), (12, .p (.view 1 ((dirL A A.n).map eNd)))]) (fun i b => [(3, .var [.p (.view 1 ((byB A.per (64 * A.n)).map eB)), .p (.view 1 ((dirL A A.n).map eNd)), .sl b 1 0 i])]) (fun i => [.arr 1 ((hsL A i).map eHs)]) (fun i => i ≤ (dirL A A.n).length) (fun i => (dirL A A.n).length - i) (0) ?h0_1 ?hs0_1 ?I_1 ?hI_1 ?round_1
 case hI_1 => intro x; (simp -dsimp -implicitDefEqProofs (maxSteps := 1000000) (disch := first | omega | (simp only [LN]; omega)) only [go_sem]) <;> exact rfl
 case hs0_1 => refine wk_auto ?_; (simp -dsimp -implicitDefEqProofs (maxSteps := 1000000) (disch := first | omega | (simp only [LN, byB_len, byB_take, Nat.min_self, show hsL A 0 = [] from rfl]; omega)) only [go_sem, byB_len, byB_take, Nat.min_self, show hsL A 0 = [] from rfl]) <;> (try omega)
 case h0_1 => exact Nat.zero_le _
 case round_1 =>
  intro i hi
  have hsl := hsL_len A hi
  have w3 : IntKind.i64.wrap ((i : Int) + 1) = ((i + 1 : Nat) : Int) := by rw [IntKind.wrap_i64]; push_cast; omega
  by_cases hi2 : i < (dirL A A.n).length
  ·have hs := hsL_s A hi2
   have hm : (dirL A A.n).getD i default ∈ dirL A A.n := by rw [List.getD_eq_getElem?_getD, List.getElem?_eq_getElem hi2]; exact List.getElem_mem hi2
   generalize hxx : (dirL A A.n).getD i default = x at *
   have kh := dHist6 A J N h hN x (dirL_lt A hm)
   repeat' (first
    | (with_reducible first | refine r_seq ?_ | refine r_block ?_ | refine fork_not ?_ | refine fork_and ?_ | refine fork_or ?_ | refine chk_ok (by kernel_rfl) ?_)
    | ((with_reducible first | refine fork_dec ?_ ?_ | refine fork_eq ?_ ?_ | refine fork_ne ?_ ?_ | refine fork_intro ?_ ?_) <;> intro h <;> try (exfalso; first | omega | exact h rfl | (revert h; decide) | (cases h; done)))
    | ((with_reducible show False); omega)
    | ((first | (with_reducible first | refine r_exit ?_ | refine r_skip ?_ | refine r_cond ?_ | refine r_region ?_ | refine r_ret ?_ | show VX _ _ _ _ _ _ _ | show vstep _ _ _ _ _ | show vskip _ _ _ | show withV _ _) | ((with_reducible show endA _ _ _ _ _ _ _); simp -implicitDefEqProofs only [endA]) | (with_reducible first | refine pick_viewG default (by first | omega | (simp only [LN, hxx]; omega)) (by first | omega | (simp only [LN, hxx]; omega)) ?_ | refine pick_own default (by first | omega | (simp only [LN, hxx]; omega)) ?_ | refine And.intro (by first | decide | omega | assumption | (simp only [LN, hxx]; omega)) ?_) | (with_reducible first | apply callK_lent | apply callF_lent | apply hideP_own) | ((with_reducible apply callA_go); (first | exact kh | fail)) | ((with_reducible show pickE _ _ _); first | refine pickE_intro _ ⟨by omega, by rfl⟩ ?_ | refine pickE_intro _ (by rfl) ?_) | fail); try simp -dsimp -implicitDefEqProofs (maxSteps := 1000000) (disch := first | omega | (simp only [LN, hxx]; omega)) only [go_sem, hxx])
    | fail)
   all_goals first | omega | ((refine loopQ_next (i + 1) ?_ ?_ ?_; (omega); (show _ < _; omega); (simp -dsimp -implicitDefEqProofs (maxSteps := 1000000) (disch := first | omega | (simp only [LN, w3, hs, List.map_append, List.map_cons, List.map_nil]; omega)) only [go_sem, w3, hs, List.map_append, List.map_cons, List.map_nil]; try trivial)))
  ·obtain rfl : i = (dirL A A.n).length := by omega
   clear w3
   repeat' (first
    | (with_reducible first | refine r_seq ?_ | refine r_block ?_ | refine fork_not ?_ | refine fork_and ?_ | refine fork_or ?_ | refine chk_ok (by kernel_rfl) ?_)
    | ((with_reducible first | refine fork_dec ?_ ?_ | refine fork_eq ?_ ?_ | refine fork_ne ?_ ?_ | refine fork_intro ?_ ?_) <;> intro h <;> try (exfalso; first | omega | exact h rfl | (revert h; decide) | (cases h; done)))
    | ((with_reducible show False); omega)
    | ((first | (with_reducible first | refine r_exit ?_ | refine r_skip ?_ | refine r_cond ?_ | refine r_region ?_ | refine r_ret ?_ | show VX _ _ _ _ _ _ _ | show vstep _ _ _ _ _ | show vskip _ _ _ | show withV _ _) | ((with_reducible show endA _ _ _ _ _ _ _); simp -implicitDefEqProofs only [endA]) | (with_reducible first | refine pick_viewG default (by first | omega | (simp only [LN, byB_len, byB_take, Nat.min_self, hsl]; omega)) (by first | omega | (simp only [LN, byB_len, byB_take, Nat.min_self, hsl]; omega)) ?_ | refine pick_own default (by first | omega | (simp only [LN, byB_len, byB_take, Nat.min_self, hsl]; omega)) ?_ | refine And.intro (by first | decide | omega | assumption | (simp only [LN, byB_len, byB_take, Nat.min_self, hsl]; omega)) ?_) | ((with_reducible show pickE _ _ _); first | refine pickE_intro _ ⟨by omega, by rfl⟩ ?_ | refine pickE_intro _ (by rfl) ?_) | fail); try simp -dsimp -implicitDefEqProofs (maxSteps := 1000000) (disch := first | omega | (simp only [LN, byB_len, byB_take, Nat.min_self, hsl]; omega)) only [go_sem, byB_len, byB_take, Nat.min_self, hsl])
    | fail)
   all_goals first | omega | (simp; done)
end Go.Proofs.Ytlldhofcdfejnaa