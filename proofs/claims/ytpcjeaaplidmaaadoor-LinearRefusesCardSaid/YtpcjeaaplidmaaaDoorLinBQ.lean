/- Contracts of functions of this program, and the plain facts that they rest on. No conditions. -/
import Derived.Test.YtpcjeaaplidmaaaDoorLinAQ
set_option linter.unusedSimpArgs false
set_option linter.unusedVariables false
namespace Go.Proofs.YtpcjeaaplidmaaaDoor
open Go Go.Ab
attribute [local irreducible] callK callF loopQ vstep vskip pickE hideP
open Go.RowKit
set_option maxRecDepth 100000
attribute [local go_sem] Hi.eC Hi.hc Hi.hP
def ini (k : Int) : Sp.S := ⟨Sp.newK k, 0, [], []⟩
def opC (c : Hi.C) : Sp.O := ⟨c.k, c.key, c.val, c.old⟩
def resC (c : Hi.C) : Sp.R := ⟨c.rv, c.ok, c.code⟩
theorem c8S (k : Int) : PCalls Tryd.prog 8 [.v (.int .u8 k)] (Sp.eS (ini k)) :=
 pcalls_to (by simp [ini, Sp.eS, Sp.eS0, PLe, PLes, PLe_self]) (Sp.c11 k)
theorem sorted_nil : Sp.SortedM [] := fun i j _ h => absurd h (by simp)
def badC (k : Int) (c : Hi.C) : Prop := (Sp.applyM (ini k) (opC c)).2.e = 13
instance (k : Int) (c : Hi.C) : Decidable (badC k c) := by unfold badC; exact inferInstance
def examE (k : Int) (l : List Hi.C) : Int := if Sp.newK k ≠ k ∨ k = 0 then 1 else if l.any (fun c => decide (badC k c)) = true then 13 else 0
theorem exam_1 {k : Int} {l : List Hi.C} (h : Sp.newK k ≠ k ∨ k = 0) : examE k l = 1 := if_pos h
theorem exam_13 {k : Int} {l : List Hi.C} (h : ¬ (Sp.newK k ≠ k ∨ k = 0)) {i : Nat} (hi : i < l.length) (hb : badC k (l.getD i default)) : examE k l = 13 := by
 unfold examE
 rw [if_neg h, if_pos]
 rw [List.any_eq_true]
 exact ⟨l.getD i default, by rw [Hi.getD_get l i default hi]; exact List.getElem_mem hi, decide_eq_true hb⟩
theorem exam_0 {k : Int} {l : List Hi.C} (h : ¬ (Sp.newK k ≠ k ∨ k = 0)) (hb : ∀ i, i < l.length → ¬ badC k (l.getD i default)) : examE k l = 0 := by
 unfold examE
 rw [if_neg h, if_neg]
 rw [List.any_eq_true]
 rintro ⟨c, hc, h2⟩
 obtain ⟨i, hi, rfl⟩ := List.mem_iff_getElem.1 hc
 refine hb i hi ?_
 rw [Hi.getD_get l i default hi]
 exact of_decide_eq_true h2
set_option maxRecDepth 100000 in
set_option maxHeartbeats 4000000 in
theorem c54 (k n : Int) : PCalls Tryd.prog 54 [Sp.eS0 k n] (.v (.int .u8 k)) := by
 refine pcalls_facts ⟨_, rfl, rfl, by decide⟩ fun hf => ?_
 simp only [go_sem, big] at hf
 refine pcalls_of (E := E) (fn := Tryd.f54) 5 [.tmp 2] rfl rfl rfl rfl (by decide) rfl ?_
 repeat' (first
  | (with_reducible first | refine r_seq ?_ | refine r_block ?_ | refine fork_not ?_ | refine fork_and ?_ | refine fork_or ?_ | refine chk_ok (by kernel_rfl) ?_)
  | ((with_reducible first | refine fork_dec ?_ ?_ | refine fork_eq ?_ ?_ | refine fork_ne ?_ ?_ | refine fork_intro ?_ ?_) <;> intro h)
  | ((with_reducible show False); omega)
  | ((first | (with_reducible first | refine r_exit ?_ | refine r_skip ?_ | refine r_cond ?_ | refine r_region ?_ | refine r_ret ?_ | show VX _ _ _ _ _ _ _ | show vstep _ _ _ _ _ | show vskip _ _ _ | show withV _ _) | ((with_reducible show endA _ _ _ _ _ _ _); simp -implicitDefEqProofs only [endA]) | (with_reducible first | refine pick_viewG default (by first | omega | (simp only [LN]; omega)) (by first | omega | (simp only [LN]; omega)) ?_ | refine pick_own default (by first | omega | (simp only [LN]; omega)) ?_ | refine And.intro (by first | decide | omega | assumption | (simp only [LN]; omega)) ?_) | ((with_reducible show pickE _ _ _); first | refine pickE_intro _ ⟨by omega, by rfl⟩ ?_ | refine pickE_intro _ (by rfl) ?_) | fail); try simp -dsimp -implicitDefEqProofs (maxSteps := 1000000) (disch := first | omega | (simp only [LN]; omega)) only [go_sem])
  | fail)
set_option maxRecDepth 100000 in
set_option maxHeartbeats 4000000 in
theorem c35n (k : Int) : PCalls Tryd.prog 35 [.v (.int .u8 k), .v (.pointer none)] (.tup [.view 11 [], .v (.int .i64 1)]) := by
 refine pcalls_of (E := E) (fn := Tryd.f35) 46 [.tmp 4, .tmp 5] rfl rfl rfl rfl (by decide) rfl ?_
 repeat' (first
  | (with_reducible first | refine r_seq ?_ | refine r_block ?_ | refine fork_not ?_ | refine fork_and ?_ | refine fork_or ?_ | refine chk_ok (by kernel_rfl) ?_)
  | ((with_reducible first | refine fork_dec ?_ ?_ | refine fork_eq ?_ ?_ | refine fork_ne ?_ ?_ | refine fork_intro ?_ ?_) <;> intro h <;> try (exfalso; first | omega | exact h rfl | (revert h; decide) | (cases h; done)))
  | ((with_reducible show False); omega)
  | ((first | (with_reducible first | refine r_exit ?_ | refine r_skip ?_ | refine r_cond ?_ | refine r_region ?_ | refine r_ret ?_ | show VX _ _ _ _ _ _ _ | show vstep _ _ _ _ _ | show vskip _ _ _ | show withV _ _) | ((with_reducible show endA _ _ _ _ _ _ _); simp -implicitDefEqProofs only [endA]) | (with_reducible first | refine pick_viewG default (by first | omega | (simp only [LN]; omega)) (by first | omega | (simp only [LN]; omega)) ?_ | refine pick_own default (by first | omega | (simp only [LN]; omega)) ?_ | refine And.intro (by first | decide | omega | assumption | (simp only [LN]; omega)) ?_) | ((with_reducible apply callK_pure); (first | exact Sp.c11 k | exact c54 _ _ | fail)) | ((with_reducible apply callF_lend); (first | exact Sp.c11 k | exact c54 _ _ | fail); rfl) | ((with_reducible apply callF_go); (first | exact Sp.c11 k | exact c54 _ _ | fail)) | ((with_reducible show pickE _ _ _); first | refine pickE_intro _ ⟨by omega, by rfl⟩ ?_ | refine pickE_intro _ (by rfl) ?_) | fail); try simp -dsimp -implicitDefEqProofs (maxSteps := 1000000) (disch := first | omega | (simp only [LN]; omega)) only [go_sem])
  | fail)
 all_goals first | rfl
set_option maxRecDepth 100000 in
set_option maxHeartbeats 4000000 in
theorem c35 (k : Int) (x : Hi.H) (hl : x.cl.length ≤ 1000000) : PCalls Tryd.prog 35 [.v (.int .u8 k), Hi.hP x] (.tup [.view 11 (if examE k x.cl = 0 then x.cl.map Hi.eC else []), .v (.int .i64 (examE k x.cl))]) := by
 refine pcalls_facts ⟨_, rfl, rfl, by decide⟩ fun hf => ?_
 simp only [go_sem, big] at hf
 refine pcalls_of (E := E) (fn := Tryd.f35) 46 [.tmp 4, .tmp 5] rfl rfl rfl rfl (by decide) rfl ?_
 by_cases hk : Sp.newK k ≠ k ∨ k = 0
 ·have e := exam_1 (l := x.cl) hk
  rw [e, if_neg (by decide)]
  repeat' (first
   | (with_reducible first | refine r_seq ?_ | refine r_block ?_ | refine fork_not ?_ | refine fork_and ?_ | refine fork_or ?_ | refine chk_ok (by kernel_rfl) ?_)
   | ((with_reducible first | refine fork_dec ?_ ?_ | refine fork_eq ?_ ?_ | refine fork_ne ?_ ?_ | refine fork_intro ?_ ?_) <;> intro h <;> try (exfalso; first | omega | exact h rfl | (revert h; decide) | (cases h; done)))
   | ((with_reducible show False); omega)
   | ((first | (with_reducible first | refine r_exit ?_ | refine r_skip ?_ | refine r_cond ?_ | refine r_region ?_ | refine r_ret ?_ | show VX _ _ _ _ _ _ _ | show vstep _ _ _ _ _ | show vskip _ _ _ | show withV _ _) | ((with_reducible show endA _ _ _ _ _ _ _); simp -implicitDefEqProofs only [endA]) | (with_reducible first | refine pick_viewG default (by first | omega | (simp only [LN]; omega)) (by first | omega | (simp only [LN]; omega)) ?_ | refine pick_own default (by first | omega | (simp only [LN]; omega)) ?_ | refine And.intro (by first | decide | omega | assumption | (simp only [LN]; omega)) ?_) | ((with_reducible apply callK_pure); (first | exact Sp.c11 k | exact c54 _ _ | fail)) | ((with_reducible apply callF_lend); (first | exact Sp.c11 k | exact c54 _ _ | fail); rfl) | ((with_reducible apply callF_go); (first | exact Sp.c11 k | exact c54 _ _ | fail)) | ((with_reducible show pickE _ _ _); first | refine pickE_intro _ ⟨by omega, by rfl⟩ ?_ | refine pickE_intro _ (by rfl) ?_) | fail); try simp -dsimp -implicitDefEqProofs (maxSteps := 1000000) (disch := first | omega | (simp only [LN]; omega)) only [go_sem])
   | fail)
  all_goals first | rfl | omega
 ·have hk2 : Sp.newK k = k ∧ k ≠ 0 := by omega
  have c11 := Sp.c11 k
  rw [hk2.1] at c11
  have c12 := fun i => Sp.c12 (ini k) (opC (x.cl.getD i default)) sorted_nil (Nat.zero_le _) (Nat.zero_le _)
  repeat' (first
   | (with_reducible first | refine r_seq ?_ | refine r_block ?_ | refine fork_not ?_ | refine fork_and ?_ | refine fork_or ?_ | refine chk_ok (by kernel_rfl) ?_)
   | ((with_reducible first | refine fork_dec ?_ ?_ | refine fork_eq ?_ ?_ | refine fork_ne ?_ ?_ | refine fork_intro ?_ ?_) <;> intro h <;> try (exfalso; first | omega | exact h rfl | (revert h; decide) | (cases h; done)))
   | ((with_reducible show False); omega)
   | ((first | (with_reducible first | refine r_exit ?_ | refine r_skip ?_ | refine r_cond ?_ | refine r_region ?_ | refine r_ret ?_ | show VX _ _ _ _ _ _ _ | show vstep _ _ _ _ _ | show vskip _ _ _ | show withV _ _) | ((with_reducible show endA _ _ _ _ _ _ _); simp -implicitDefEqProofs only [endA]) | (with_reducible first | refine pick_viewG default (by first | omega | (simp only [LN]; omega)) (by first | omega | (simp only [LN]; omega)) ?_ | refine pick_own default (by first | omega | (simp only [LN]; omega)) ?_ | refine And.intro (by first | decide | omega | assumption | (simp only [LN]; omega)) ?_) | ((with_reducible apply callK_pure); (first | exact c11 | exact c54 _ _ | exact Hi.c16 x hl | fail)) | ((with_reducible apply callF_lend); (first | exact c11 | exact c54 _ _ | exact Hi.c16 x hl | fail); rfl) | ((with_reducible apply callF_go); (first | exact c11 | exact c54 _ _ | exact Hi.c16 x hl | fail)) | ((with_reducible show pickE _ _ _); first | refine pickE_intro _ ⟨by omega, by rfl⟩ ?_ | refine pickE_intro _ (by rfl) ?_) | fail); try simp -dsimp -implicitDefEqProofs (maxSteps := 1000000) (disch := first | omega | (simp only [LN]; omega)) only [go_sem])
   | fail)
  all_goals try omega
  refine r_loopA (α := Nat) [6, 7, 28, 29] (fun i b => [(30, aI i)]) (fun i b => []) (fun i => []) (fun i => i ≤ x.cl.length ∧ ∀ j, j < i → ¬ badC k (x.cl.getD j default)) (fun i => x.cl.length - i) (0) ?h0_1 ?hs0_1 ?I_1 ?hI_1 ?round_1
  case hI_1 => intro x; (simp -dsimp -implicitDefEqProofs (maxSteps := 1000000) (disch := first | omega | (simp only [LN]; omega)) only [go_sem]) <;> exact rfl
  case hs0_1 => refine wk_auto ?_; (simp -dsimp -implicitDefEqProofs (maxSteps := 1000000) (disch := first | omega | (simp only [LN]; omega)) only [go_sem]) <;> (try omega)
  case h0_1 => exact ⟨Nat.zero_le _, fun j hj => absurd hj (by omega)⟩
  case round_1 =>
   rintro i ⟨h1, h2⟩
   have c12 := c12 i
   unfold ini opC at c12
   rw [hk2.1] at c12
   repeat' (first
    | (with_reducible first | refine r_seq ?_ | refine r_block ?_ | refine fork_not ?_ | refine fork_and ?_ | refine fork_or ?_ | refine chk_ok (by kernel_rfl) ?_)
    | ((with_reducible first | refine fork_dec ?_ ?_ | refine fork_eq ?_ ?_ | refine fork_ne ?_ ?_ | refine fork_intro ?_ ?_) <;> intro h <;> try (exfalso; first | omega | exact h rfl | (revert h; decide) | (cases h; done)))
    | ((with_reducible show False); omega)
    | ((first | (with_reducible first | refine r_exit ?_ | refine r_skip ?_ | refine r_cond ?_ | refine r_region ?_ | refine r_ret ?_ | show VX _ _ _ _ _ _ _ | show vstep _ _ _ _ _ | show vskip _ _ _ | show withV _ _) | ((with_reducible show endA _ _ _ _ _ _ _); simp -implicitDefEqProofs only [endA]) | (with_reducible first | refine pick_viewG default (by first | omega | (simp only [LN]; omega)) (by first | omega | (simp only [LN]; omega)) ?_ | refine pick_own default (by first | omega | (simp only [LN]; omega)) ?_ | refine And.intro (by first | decide | omega | assumption | (simp only [LN]; omega)) ?_) | ((with_reducible apply callK_to); exact c12; (focus (simp -dsimp -implicitDefEqProofs (maxSteps := 1000000) (disch := first | omega | (simp only [LN]; omega)) only [go_sem]; done))) | ((with_reducible show pickE _ _ _); first | refine pickE_intro _ ⟨by omega, by rfl⟩ ?_ | refine pickE_intro _ (by rfl) ?_) | fail); try simp -dsimp -implicitDefEqProofs (maxSteps := 1000000) (disch := first | omega | (simp only [LN]; omega)) only [go_sem])
    | fail)
   all_goals first
    | (have e := exam_13 hk (l := x.cl) (i := i) (by omega) (by unfold badC ini opC; rw [hk2.1]; assumption)
       rw [e, if_neg (by decide)]
       exact ⟨rfl, rfl⟩)
    | (have hb : ¬ badC k (x.cl.getD i default) := by unfold badC ini opC; rw [hk2.1]; assumption
       (refine loopQ_next (i + 1) ?_ ?_ ?_; (exact ⟨by omega, fun j hj => by rcases Nat.lt_or_ge j i with h4 | h4; (exact h2 j h4); (obtain rfl : j = i := by omega); exact hb⟩); (show _ < _; omega); (simp -dsimp -implicitDefEqProofs (maxSteps := 1000000) (disch := first | omega | (simp only [LN]; omega)) only [go_sem]; try trivial)))
    | (have e := exam_0 (l := x.cl) hk (fun j hj => h2 j (by omega))
       rw [e, if_pos rfl]; exact ⟨rfl, rfl⟩)
end Go.Proofs.YtpcjeaaplidmaaaDoor