/- Contracts of functions of this program, and the plain facts that they rest on. No conditions. -/
import Derived.Test.YtpcjeaaplidmaaaGreatDoorHiBQ
set_option linter.unusedSimpArgs false
set_option linter.unusedVariables false
namespace Go.Proofs.YtpcjeaaplidmaaaGreatDoor.Hi
open Go Go.Ab
attribute [local irreducible] callK callF loopQ vstep vskip pickE hideP
attribute [local go_sem] eC rC eE hc hP hW oW oP sR oH newC
def goes (e th : Int) (c : C) : Prop := c.th = th ∧ c.en < 0 ∧ c.era = e
instance (e th : Int) (c : C) : Decidable (goes e th c) := by unfold goes; exact inferInstance
def busyM (l : List C) (e th : Int) : Bool := l.any fun c => decide (goes e th c)
theorem getD_get {α : Type} (l : List α) (j : Nat) (d : α) (h : j < l.length) : l.getD j d = l[j] := by simp [List.getD_eq_getElem?_getD, h]
theorem all_step {P : Nat → Prop} {i : Nat} (h : ∀ j, j < i → ¬ P j) (hi : ¬ P i) : ∀ j, j < i + 1 → ¬ P j := fun j hj => by
 by_cases e : j = i
 ·rw [e]; exact hi
 ·exact h j (by omega)
theorem busyM_iff {l : List C} {e th : Int} : busyM l e th = true ↔ ∃ j, j < l.length ∧ goes e th (l.getD j default) := by
 unfold busyM
 rw [List.any_eq_true]
 constructor
 ·rintro ⟨c, hc, h⟩
  obtain ⟨j, hj, rfl⟩ := List.mem_iff_getElem.1 hc
  exact ⟨j, hj, by rw [getD_get _ _ _ hj]; simpa using h⟩
 ·rintro ⟨j, hj, h⟩
  rw [getD_get _ _ _ hj] at h
  exact ⟨_, List.getElem_mem hj, by simpa using h⟩
set_option maxRecDepth 100000 in
set_option maxHeartbeats 4000000 in
theorem c27b (l : List C) (n e th k key val old : Int) (hl : l.length ≤ 1000000) (hb : th < 0 ∨ 7 < th ∨ k < 1 ∨ 9 < k ∨ busyM l e th = true) : PCalls Tryz.prog 18 [hW l n e, .v (.int .i64 th), oW k key val old] (.tup [hW l n e, .v (.int .i64 (-1))]) := by
 refine pcalls_facts ⟨_, rfl, rfl, by decide⟩ fun hf => ?_
 simp only [go_sem, big] at hf
 refine pcalls_of (E := E) (fn := Tryz.f18) 70 [.cell 6 28, .tmp 7] rfl rfl rfl rfl (by decide) rfl ?_
 repeat' (first
  | (with_reducible first | refine r_seq ?_ | refine r_block ?_ | refine fork_not ?_ | refine fork_and ?_ | refine fork_or ?_ | refine chk_ok (by kernel_rfl) ?_)
  | ((with_reducible first | refine fork_dec ?_ ?_ | refine fork_eq ?_ ?_ | refine fork_ne ?_ ?_ | refine fork_intro ?_ ?_) <;> intro h <;> try (exfalso; first | omega | exact h rfl | (revert h; decide) | (cases h; done)))
  | ((with_reducible show False); omega)
  | ((first | (with_reducible first | refine r_exit ?_ | refine r_skip ?_ | refine r_cond ?_ | refine r_region ?_ | refine r_ret ?_ | show VX _ _ _ _ _ _ _ | show vstep _ _ _ _ _ | show vskip _ _ _ | show withV _ _) | ((with_reducible show endA _ _ _ _ _ _ _); simp -implicitDefEqProofs only [endA]) | (with_reducible first | refine pick_viewG default (by first | omega | (simp only [LN]; omega)) (by first | omega | (simp only [LN]; omega)) ?_ | refine pick_own default (by first | omega | (simp only [LN]; omega)) ?_ | refine And.intro (by first | decide | omega | assumption | (simp only [LN]; omega)) ?_) | ((with_reducible show pickE _ _ _); first | refine pickE_intro _ ⟨by omega, by rfl⟩ ?_ | refine pickE_intro _ (by rfl) ?_) | fail); try simp -dsimp -implicitDefEqProofs (maxSteps := 1000000) (disch := first | omega | (simp only [LN]; omega)) only [go_sem])
  | fail)
 refine r_loopA (α := Nat) [1, 3, 5, 6, 28] (fun i b => [(29, aI i)]) (fun i b => []) (fun i => []) (fun i => i ≤ l.length ∧ ∀ j, j < i → ¬ goes e th (l.getD j default)) (fun i => l.length - i) (0) ?h0_1 ?hs0_1 ?I_1 ?hI_1 ?round_1
 case hI_1 => intro x; (simp -dsimp -implicitDefEqProofs (maxSteps := 1000000) (disch := first | omega | (simp only [LN]; omega)) only [go_sem]) <;> exact rfl
 case hs0_1 => refine wk_auto ?_; (simp -dsimp -implicitDefEqProofs (maxSteps := 1000000) (disch := first | omega | (simp only [LN]; omega)) only [go_sem]) <;> (try omega)
 case h0_1 => exact ⟨by omega, by intro j hj; omega⟩
 case round_1 =>
  rintro i ⟨h1, h2⟩
  repeat' (first
   | (with_reducible first | refine r_seq ?_ | refine r_block ?_ | refine fork_not ?_ | refine fork_and ?_ | refine fork_or ?_ | refine chk_ok (by kernel_rfl) ?_)
   | ((with_reducible first | refine fork_dec ?_ ?_ | refine fork_eq ?_ ?_ | refine fork_ne ?_ ?_ | refine fork_intro ?_ ?_) <;> intro h <;> try (exfalso; first | omega | exact h rfl | (revert h; decide) | (cases h; done)))
   | ((with_reducible show False); omega)
   | ((first | (with_reducible first | refine r_exit ?_ | refine r_skip ?_ | refine r_cond ?_ | refine r_region ?_ | refine r_ret ?_ | show VX _ _ _ _ _ _ _ | show vstep _ _ _ _ _ | show vskip _ _ _ | show withV _ _) | ((with_reducible show endA _ _ _ _ _ _ _); simp -implicitDefEqProofs only [endA]) | (with_reducible first | refine pick_viewG default (by first | omega | (simp only [LN]; omega)) (by first | omega | (simp only [LN]; omega)) ?_ | refine pick_own default (by first | omega | (simp only [LN]; omega)) ?_ | refine And.intro (by first | decide | omega | assumption | (simp only [LN]; omega)) ?_) | ((with_reducible apply callK_pure); (exact c42 l n e i (by omega))) | ((with_reducible apply callF_lend); (exact c42 l n e i (by omega)); rfl) | ((with_reducible apply callF_go); (exact c42 l n e i (by omega))) | ((with_reducible show pickE _ _ _); first | refine pickE_intro _ ⟨by omega, by rfl⟩ ?_ | refine pickE_intro _ (by rfl) ?_) | fail); try simp -dsimp -implicitDefEqProofs (maxSteps := 1000000) (disch := first | omega | (simp only [LN]; omega)) only [go_sem])
   | fail)
  all_goals first
   | (refine loopQ_next (i + 1) ?_ ?_ ?_; (exact ⟨by omega, all_step h2 (by unfold goes; omega)⟩); (show _ < _; omega); (simp -dsimp -implicitDefEqProofs (maxSteps := 1000000) (disch := first | omega | (simp only [LN]; omega)) only [go_sem]; try trivial))
   | (exfalso; rcases hb with hb | hb | hb | hb | hb <;> first | omega | (obtain ⟨j, hj, hg⟩ := busyM_iff.1 hb; exact h2 j (by omega) hg))
set_option maxRecDepth 100000 in
set_option maxHeartbeats 4000000 in
theorem c27o (l : List C) (n e th k key val old : Int) (hl : l.length ≤ 1000000) (hn : 0 ≤ n ∧ n ≤ 1000000) (hb : 0 ≤ th ∧ th ≤ 7 ∧ 1 ≤ k ∧ k ≤ 9) (hnb : busyM l e th = false) : PCalls Tryz.prog 18 [hW l n e, .v (.int .i64 th), oW k key val old] (.tup [hW (l ++ [newC th k key val old n e]) (n + 1) e, .v (.int .i64 l.length)]) := by
 refine pcalls_facts ⟨_, rfl, rfl, by decide⟩ fun hf => ?_
 simp only [go_sem, big] at hf
 refine pcalls_of (E := E) (fn := Tryz.f18) 70 [.cell 6 28, .tmp 7] rfl rfl rfl rfl (by decide) rfl ?_
 repeat' (first
  | (with_reducible first | refine r_seq ?_ | refine r_block ?_ | refine fork_not ?_ | refine fork_and ?_ | refine fork_or ?_ | refine chk_ok (by kernel_rfl) ?_)
  | ((with_reducible first | refine fork_dec ?_ ?_ | refine fork_eq ?_ ?_ | refine fork_ne ?_ ?_ | refine fork_intro ?_ ?_) <;> intro h <;> try (exfalso; first | omega | exact h rfl | (revert h; decide) | (cases h; done)))
  | ((with_reducible show False); omega)
  | ((first | (with_reducible first | refine r_exit ?_ | refine r_skip ?_ | refine r_cond ?_ | refine r_region ?_ | refine r_ret ?_ | show VX _ _ _ _ _ _ _ | show vstep _ _ _ _ _ | show vskip _ _ _ | show withV _ _) | ((with_reducible show endA _ _ _ _ _ _ _); simp -implicitDefEqProofs only [endA]) | (with_reducible first | refine pick_viewG default (by first | omega | (simp only [LN]; omega)) (by first | omega | (simp only [LN]; omega)) ?_ | refine pick_own default (by first | omega | (simp only [LN]; omega)) ?_ | refine And.intro (by first | decide | omega | assumption | (simp only [LN]; omega)) ?_) | ((with_reducible show pickE _ _ _); first | refine pickE_intro _ ⟨by omega, by rfl⟩ ?_ | refine pickE_intro _ (by rfl) ?_) | fail); try simp -dsimp -implicitDefEqProofs (maxSteps := 1000000) (disch := first | omega | (simp only [LN]; omega)) only [go_sem])
  | fail)
 refine r_loopA (α := Nat) [1, 3, 5, 6, 28] (fun i b => [(29, aI i)]) (fun i b => []) (fun i => []) (fun i => i ≤ l.length) (fun i => l.length - i) (0) ?h0_2 ?hs0_2 ?I_2 ?hI_2 ?round_2
 case hI_2 => intro x; (simp -dsimp -implicitDefEqProofs (maxSteps := 1000000) (disch := first | omega | (simp only [LN]; omega)) only [go_sem]) <;> exact rfl
 case hs0_2 => refine wk_auto ?_; (simp -dsimp -implicitDefEqProofs (maxSteps := 1000000) (disch := first | omega | (simp only [LN]; omega)) only [go_sem]) <;> (try omega)
 case h0_2 => omega
 case round_2 =>
  rintro i h1
  repeat' (first
   | (with_reducible first | refine r_seq ?_ | refine r_block ?_ | refine fork_not ?_ | refine fork_and ?_ | refine fork_or ?_ | refine chk_ok (by kernel_rfl) ?_)
   | ((with_reducible first | refine fork_dec ?_ ?_ | refine fork_eq ?_ ?_ | refine fork_ne ?_ ?_ | refine fork_intro ?_ ?_) <;> intro h <;> try (exfalso; first | omega | exact h rfl | (revert h; decide) | (cases h; done)))
   | ((with_reducible show False); omega)
   | ((first | (with_reducible first | refine r_exit ?_ | refine r_skip ?_ | refine r_cond ?_ | refine r_region ?_ | refine r_ret ?_ | show VX _ _ _ _ _ _ _ | show vstep _ _ _ _ _ | show vskip _ _ _ | show withV _ _) | ((with_reducible show endA _ _ _ _ _ _ _); simp -implicitDefEqProofs only [endA]) | (with_reducible first | refine pick_viewG default (by first | omega | (simp only [LN]; omega)) (by first | omega | (simp only [LN]; omega)) ?_ | refine pick_own default (by first | omega | (simp only [LN]; omega)) ?_ | refine And.intro (by first | decide | omega | assumption | (simp only [LN]; omega)) ?_) | ((with_reducible apply callK_pure); (exact c42 l n e i (by omega))) | ((with_reducible apply callF_lend); (exact c42 l n e i (by omega)); rfl) | ((with_reducible apply callF_go); (exact c42 l n e i (by omega))) | ((with_reducible show pickE _ _ _); first | refine pickE_intro _ ⟨by omega, by rfl⟩ ?_ | refine pickE_intro _ (by rfl) ?_) | fail); try simp -dsimp -implicitDefEqProofs (maxSteps := 1000000) (disch := first | omega | (simp only [LN]; omega)) only [go_sem])
   | fail)
  all_goals first
   | (refine loopQ_next (i + 1) ?_ ?_ ?_; (omega); (show _ < _; omega); (simp -dsimp -implicitDefEqProofs (maxSteps := 1000000) (disch := first | omega | (simp only [LN]; omega)) only [go_sem]; try trivial))
   | (exfalso; rw [busyM_iff.2 ⟨i, by omega, by unfold goes; omega⟩] at hnb; cases hnb)
set_option maxRecDepth 100000 in
set_option maxHeartbeats 4000000 in
theorem c28b (l : List C) (n e i rv : Int) (ok : Bool) (code : Int) (hl : l.length ≤ 1000000) (hb : ¬ (((0 ≤ i ∧ i < l.length) ∧ (l.getD i.toNat default).en < 0) ∧ (l.getD i.toNat default).era = e)) : PCalls Tryz.prog 47 [hW l n e, .v (.int .i64 i), sR rv ok code] (.tup [hW l n e, .v (.bool false)]) := by
 refine pcalls_facts ⟨_, rfl, rfl, by decide⟩ fun hf => ?_
 simp only [go_sem, big] at hf
 refine pcalls_of (E := E) (fn := Tryz.f47) 47 [.cell 6 28, .tmp 7] rfl rfl rfl rfl (by decide) rfl ?_
 by_cases hi : 0 ≤ i
 ·obtain ⟨j, rfl⟩ := Int.eq_ofNat_of_zero_le hi
  simp only [Int.toNat_natCast] at hb
  repeat' (first
   | (with_reducible first | refine r_seq ?_ | refine r_block ?_ | refine fork_not ?_ | refine fork_and ?_ | refine fork_or ?_ | refine chk_ok (by kernel_rfl) ?_)
   | ((with_reducible first | refine fork_dec ?_ ?_ | refine fork_eq ?_ ?_ | refine fork_ne ?_ ?_ | refine fork_intro ?_ ?_) <;> intro h <;> try (exfalso; first | omega | exact h rfl | (revert h; decide) | (cases h; done)))
   | ((with_reducible show False); omega)
   | ((first | (with_reducible first | refine r_exit ?_ | refine r_skip ?_ | refine r_cond ?_ | refine r_region ?_ | refine r_ret ?_ | show VX _ _ _ _ _ _ _ | show vstep _ _ _ _ _ | show vskip _ _ _ | show withV _ _) | ((with_reducible show endA _ _ _ _ _ _ _); simp -implicitDefEqProofs only [endA]) | (with_reducible first | refine pick_viewG default (by first | omega | (simp only [LN]; omega)) (by first | omega | (simp only [LN]; omega)) ?_ | refine pick_own default (by first | omega | (simp only [LN]; omega)) ?_ | refine And.intro (by first | decide | omega | assumption | (simp only [LN]; omega)) ?_) | ((with_reducible apply callK_pure); (exact c42 l n e j (by omega))) | ((with_reducible apply callF_lend); (exact c42 l n e j (by omega)); rfl) | ((with_reducible apply callF_go); (exact c42 l n e j (by omega))) | ((with_reducible show pickE _ _ _); first | refine pickE_intro _ ⟨by omega, by rfl⟩ ?_ | refine pickE_intro _ (by rfl) ?_) | fail); try simp -dsimp -implicitDefEqProofs (maxSteps := 1000000) (disch := first | omega | (simp only [LN]; omega)) only [go_sem])
   | fail)
  all_goals first | omega
 ·repeat' (first
   | (with_reducible first | refine r_seq ?_ | refine r_block ?_ | refine fork_not ?_ | refine fork_and ?_ | refine fork_or ?_ | refine chk_ok (by kernel_rfl) ?_)
   | ((with_reducible first | refine fork_dec ?_ ?_ | refine fork_eq ?_ ?_ | refine fork_ne ?_ ?_ | refine fork_intro ?_ ?_) <;> intro h <;> try (exfalso; first | omega | exact h rfl | (revert h; decide) | (cases h; done)))
   | ((with_reducible show False); omega)
   | ((first | (with_reducible first | refine r_exit ?_ | refine r_skip ?_ | refine r_cond ?_ | refine r_region ?_ | refine r_ret ?_ | show VX _ _ _ _ _ _ _ | show vstep _ _ _ _ _ | show vskip _ _ _ | show withV _ _) | ((with_reducible show endA _ _ _ _ _ _ _); simp -implicitDefEqProofs only [endA]) | (with_reducible first | refine pick_viewG default (by first | omega | (simp only [LN]; omega)) (by first | omega | (simp only [LN]; omega)) ?_ | refine pick_own default (by first | omega | (simp only [LN]; omega)) ?_ | refine And.intro (by first | decide | omega | assumption | (simp only [LN]; omega)) ?_) | ((with_reducible show pickE _ _ _); first | refine pickE_intro _ ⟨by omega, by rfl⟩ ?_ | refine pickE_intro _ (by rfl) ?_) | fail); try simp -dsimp -implicitDefEqProofs (maxSteps := 1000000) (disch := first | omega | (simp only [LN]; omega)) only [go_sem])
   | fail)
  all_goals first | omega
theorem set_rC (l : List C) (j : Nat) (th k key val old bg en era rv : Int) (ok : Bool) (code : Int) : (l.map rC).set j (PV.agg [.v (.int .i64 th), .v (.int .i64 k), .v (.int .u64 key), .v (.int .u64 val), .v (.int .u64 old), .v (.int .i64 bg), .v (.int .i64 en), .v (.int .i64 era), .v (.int .u64 rv), .v (.bool ok), .v (.int .i64 code)]) = (l.set j ⟨th, k, key, val, old, bg, en, era, rv, ok, code⟩).map rC := by
 rw [List.map_set]; rfl
set_option maxRecDepth 100000 in
set_option maxHeartbeats 4000000 in
theorem c28o (l : List C) (n e rv : Int) (j : Nat) (ok : Bool) (code : Int) (hl : l.length ≤ 1000000) (hn : 0 ≤ n ∧ n ≤ 1000000) (hj : j < l.length) (hp : (l.getD j default).en < 0 ∧ (l.getD j default).era = e) : PCalls Tryz.prog 47 [hW l n e, .v (.int .i64 j), sR rv ok code] (.tup [hW (l.set j (endC (l.getD j default) n rv ok code)) (n + 1) e, .v (.bool true)]) := by
 refine pcalls_facts ⟨_, rfl, rfl, by decide⟩ fun hf => ?_
 simp only [go_sem, big] at hf
 refine pcalls_of (E := E) (fn := Tryz.f47) 47 [.cell 6 28, .tmp 7] rfl rfl rfl rfl (by decide) rfl ?_
 repeat' (first
  | (with_reducible first | refine r_seq ?_ | refine r_block ?_ | refine fork_not ?_ | refine fork_and ?_ | refine fork_or ?_ | refine chk_ok (by kernel_rfl) ?_)
  | ((with_reducible first | refine fork_dec ?_ ?_ | refine fork_eq ?_ ?_ | refine fork_ne ?_ ?_ | refine fork_intro ?_ ?_) <;> intro h <;> try (exfalso; first | omega | exact h rfl | (revert h; decide) | (cases h; done)))
  | ((with_reducible show False); omega)
  | ((first | (with_reducible first | refine r_exit ?_ | refine r_skip ?_ | refine r_cond ?_ | refine r_region ?_ | refine r_ret ?_ | show VX _ _ _ _ _ _ _ | show vstep _ _ _ _ _ | show vskip _ _ _ | show withV _ _) | ((with_reducible show endA _ _ _ _ _ _ _); simp -implicitDefEqProofs only [endA]) | (with_reducible first | refine pick_viewG default (by first | omega | (simp only [LN, set_rC, getD_set_self, List.length_set, List.set_set, endC]; omega)) (by first | omega | (simp only [LN, set_rC, getD_set_self, List.length_set, List.set_set, endC]; omega)) ?_ | refine pick_own default (by first | omega | (simp only [LN, set_rC, getD_set_self, List.length_set, List.set_set, endC]; omega)) ?_ | refine And.intro (by first | decide | omega | assumption | (simp only [LN, set_rC, getD_set_self, List.length_set, List.set_set, endC]; omega)) ?_) | ((with_reducible apply callK_pure); (exact c42 l n e j hj)) | ((with_reducible apply callF_lend); (exact c42 l n e j hj); rfl) | ((with_reducible apply callF_go); (exact c42 l n e j hj)) | ((with_reducible show pickE _ _ _); first | refine pickE_intro _ ⟨by omega, by rfl⟩ ?_ | refine pickE_intro _ (by rfl) ?_) | fail); try simp -dsimp -implicitDefEqProofs (maxSteps := 1000000) (disch := first | omega | (simp only [LN, set_rC, getD_set_self, List.length_set, List.set_set, endC]; omega)) only [go_sem, set_rC, getD_set_self, List.length_set, List.set_set, endC])
  | fail)
 all_goals first | omega
attribute [local go_sem] eC rC eE hc hP hW oW oP sR oH newC
theorem tm4 (k : Int) : -4 < k.tmod 4 ∧ k.tmod 4 < 4 := by rw [Int.tmod_eq_emod]; split <;> omega
end Go.Proofs.YtpcjeaaplidmaaaGreatDoor.Hi