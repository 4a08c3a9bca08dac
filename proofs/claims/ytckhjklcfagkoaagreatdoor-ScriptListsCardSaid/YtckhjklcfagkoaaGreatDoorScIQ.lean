/- Contracts of functions of this program, and the plain facts that they rest on. No conditions. -/
import Derived.Test.YtckhjklcfagkoaaGreatDoorScHQ
set_option linter.unusedSimpArgs false
set_option linter.unusedVariables false
namespace Go.Proofs.YtckhjklcfagkoaaGreatDoor
open Go Go.Ab
attribute [local irreducible] callK callF loopQ vstep vskip pickE hideP
open Go.RowKit
set_option maxRecDepth 100000
attribute [local go_sem] eE eT bs_inj ext_bs byteAt_bs
theorem tx_hd {x : Ev} (h : okE x = true) : ¬ txE x = [] ∧ ¬ ((txE x).getD 0 0).toNat = 35 := by
 have hk := okE_t h
 have hks : x.k = 1 ∨ x.k = 2 ∨ x.k = 3 ∨ x.k = 4 ∨ x.k = 5 ∨ x.k = 6 ∨ x.k = 7 := by unfold okK at hk; omega
 rcases hks with h | h | h | h | h | h | h <;> simp [txE, wsE, joinL, h]
theorem txL_drop {vs : List Ev} {j : Nat} (h : j < vs.length) (hv : okE (vs.getD j default) = true) : txL (vs.drop j) = txE (vs.getD j default) ++ 10 :: txL (vs.drop (j + 1)) := by
 have e : vs.getD j default = vs[j] := by simp [List.getD_eq_getElem?_getD, h]
 rw [List.drop_eq_getElem_cons h, txL, ← e, lnE, hv, if_pos rfl, List.append_assoc]; rfl
theorem txL_nil : txL [] = [] := rfl
theorem map_take1 {vs : List Ev} {j : Nat} (h : j < vs.length) : (vs.take (j + 1)).map eE = (vs.take j).map eE ++ [eE (vs.getD j default)] := by
 rw [take_getD default h, List.map_append]; rfl
theorem getD_all {p : Ev → Prop} {vs : List Ev} (h : ∀ x, x ∈ vs → p x) {j : Nat} (hj : j < vs.length) : p (vs.getD j default) := by
 have e : vs.getD j default = vs[j] := by simp [List.getD_eq_getElem?_getD, hj]
 rw [e]; exact h _ (List.getElem_mem hj)
attribute [local irreducible] txL txE
set_option maxRecDepth 100000 in
set_option maxHeartbeats 4000000 in
theorem sParse (vs : List Ev) (hR : ∀ x, x ∈ vs → Rng x) (hv : ∀ x, x ∈ vs → okE x = true) (hn : vs.length ≤ 1000) : PCalls Tryz.prog 26 [.v (.string (bs (txL vs)))] (.tup [.view 8 (vs.map eE), .v (.int .i64 0), .v (.int .i64 0)]) := by
 refine pcalls_of (E := E) (fn := Tryz.f26) 46 [.tmp 2, .tmp 3, .tmp 4] rfl rfl rfl rfl (by decide) rfl ?_
 repeat' (first
  | (with_reducible first | refine r_seq ?_ | refine r_block ?_ | refine fork_not ?_ | refine fork_and ?_ | refine fork_or ?_ | refine chk_ok (by kernel_rfl) ?_)
  | ((with_reducible first | refine fork_dec ?_ ?_ | refine fork_eq ?_ ?_ | refine fork_ne ?_ ?_ | refine fork_intro ?_ ?_) <;> intro h)
  | ((with_reducible show False); omega)
  | ((first | (with_reducible first | refine r_exit ?_ | refine r_skip ?_ | refine r_cond ?_ | refine r_region ?_ | refine r_ret ?_ | show VX _ _ _ _ _ _ _ | show vstep _ _ _ _ _ | show vskip _ _ _ | show withV _ _) | ((with_reducible show endA _ _ _ _ _ _ _); simp -implicitDefEqProofs only [endA]) | (with_reducible first | refine pick_viewG default (by first | omega | (simp only [LN]; omega)) (by first | omega | (simp only [LN]; omega)) ?_ | refine pick_own default (by first | omega | (simp only [LN]; omega)) ?_ | refine And.intro (by first | decide | omega | assumption | (simp only [LN]; omega)) ?_) | ((with_reducible show pickE _ _ _); first | refine pickE_intro _ ⟨by omega, by rfl⟩ ?_ | refine pickE_intro _ (by rfl) ?_) | fail); try simp -dsimp -implicitDefEqProofs (maxSteps := 1000000) (disch := first | omega | (simp only [LN]; omega)) only [go_sem])
  | fail)
 refine r_loopA (α := Nat × Bool × Nat) [] (fun q b => [(5, .sl b 8 0 q.1), (6, .p (.v (.string (bs (txL (vs.drop q.1)))))), (7, .p (.v (.bool q.2.1))), (8, aI q.2.2)]) (fun q b => []) (fun q => [.arr 8 ((vs.take q.1).map eE)]) (fun q => q.1 ≤ vs.length ∧ (q.2.1 = false → q.1 = vs.length) ∧ q.2.2 + q.2.1.toNat ≤ q.1 + 2) (fun q => 2 * (vs.length - q.1) + q.2.1.toNat) ((0, true, 1)) ?h0_1 ?hs0_1 ?I_1 ?hI_1 ?round_1
 case hI_1 => intro x; (simp -dsimp -implicitDefEqProofs (maxSteps := 1000000) (disch := first | omega | (simp only [LN]; omega)) only [go_sem]) <;> exact rfl
 case hs0_1 => refine wk_auto ?_; (simp -dsimp -implicitDefEqProofs (maxSteps := 1000000) (disch := first | omega | (simp only [LN, List.take_zero, List.drop_zero]; omega)) only [go_sem, List.take_zero, List.drop_zero]) <;> (try omega)
 case h0_1 => exact ⟨Nat.zero_le _, fun h => Bool.noConfusion h, by decide⟩
 case round_1 =>
  rintro ⟨j, m, a⟩ ⟨h1, h2, h3⟩
  dsimp only at h1 h2 h3
  have hpos := fun (x : Ev) (h : ¬ txE x = []) => List.length_pos_iff.2 h
  have htl := txL_len (vs.drop (j + 1)) (fun x hx => hR x (List.mem_of_mem_drop hx))
  rw [List.length_drop] at htl
  cases m with
  | false =>
   obtain rfl := h2 rfl
   have ht := List.take_length (l := vs)
   repeat' (first
    | (with_reducible first | refine r_seq ?_ | refine r_block ?_ | refine fork_not ?_ | refine fork_and ?_ | refine fork_or ?_ | refine chk_ok (by kernel_rfl) ?_)
    | ((with_reducible first | refine fork_dec ?_ ?_ | refine fork_eq ?_ ?_ | refine fork_ne ?_ ?_ | refine fork_intro ?_ ?_) <;> intro h <;> try (exfalso; first | omega | exact h rfl | (revert h; decide) | (cases h; done)))
    | ((with_reducible show False); omega)
    | ((first | (with_reducible first | refine r_exit ?_ | refine r_skip ?_ | refine r_cond ?_ | refine r_region ?_ | refine r_ret ?_ | show VX _ _ _ _ _ _ _ | show vstep _ _ _ _ _ | show vskip _ _ _ | show withV _ _) | ((with_reducible show endA _ _ _ _ _ _ _); simp -implicitDefEqProofs only [endA]) | (with_reducible first | refine pick_viewG default (by first | omega | (simp only [LN, ht]; omega)) (by first | omega | (simp only [LN, ht]; omega)) ?_ | refine pick_own default (by first | omega | (simp only [LN, ht]; omega)) ?_ | refine And.intro (by first | decide | omega | assumption | (simp only [LN, ht]; omega)) ?_) | ((with_reducible show pickE _ _ _); first | refine pickE_intro _ ⟨by omega, by rfl⟩ ?_ | refine pickE_intro _ (by rfl) ?_) | fail); try simp -dsimp -implicitDefEqProofs (maxSteps := 1000000) (disch := first | omega | (simp only [LN, ht]; omega)) only [go_sem, ht])
    | fail)
   all_goals first | rfl | omega
  | true =>
   by_cases hj : j < vs.length
   ·have hvx := getD_all hv hj
    have hRx := getD_all hR hj
    have hs := txL_drop hj hvx
    have hle := txE_len hvx hRx
    have hm := map_take1 hj
    obtain ⟨hne, h35⟩ := tx_hd hvx
    have hp0 := hpos _ hne
    simp only [Bool.toNat_true] at h3
    have kc := lCutH (txE (vs.getD j default)) (txL (vs.drop (j + 1))) 10 (txE_ns _) (by omega)
    have kp := sLine (vs.getD j default) hRx hvx
    generalize vs.getD j default = x at *
    repeat' (first
     | (with_reducible first | refine r_seq ?_ | refine r_block ?_ | refine fork_not ?_ | refine fork_and ?_ | refine fork_or ?_ | refine chk_ok (by kernel_rfl) ?_)
     | ((with_reducible first | refine fork_dec ?_ ?_ | refine fork_eq ?_ ?_ | refine fork_ne ?_ ?_ | refine fork_intro ?_ ?_) <;> intro h <;> try (exfalso; first | omega | exact h rfl | (revert h; decide) | (cases h; done)))
     | ((with_reducible show False); omega)
     | ((first | (with_reducible first | refine r_exit ?_ | refine r_skip ?_ | refine r_cond ?_ | refine r_region ?_ | refine r_ret ?_ | show VX _ _ _ _ _ _ _ | show vstep _ _ _ _ _ | show vskip _ _ _ | show withV _ _) | ((with_reducible show endA _ _ _ _ _ _ _); simp -implicitDefEqProofs only [endA]) | (with_reducible first | refine pick_viewG default (by first | omega | (simp only [LN, hs, hne, h35]; omega)) (by first | omega | (simp only [LN, hs, hne, h35]; omega)) ?_ | refine pick_own default (by first | omega | (simp only [LN, hs, hne, h35]; omega)) ?_ | refine And.intro (by first | decide | omega | assumption | (simp only [LN, hs, hne, h35]; omega)) ?_) | ((with_reducible apply callK_pure); (first | exact kc | exact kp | fail)) | ((with_reducible apply callF_lend); (first | exact kc | exact kp | fail); rfl) | ((with_reducible apply callF_go); (first | exact kc | exact kp | fail)) | ((with_reducible show pickE _ _ _); first | refine pickE_intro _ ⟨by omega, by rfl⟩ ?_ | refine pickE_intro _ (by rfl) ?_) | fail); try simp -dsimp -implicitDefEqProofs (maxSteps := 1000000) (disch := first | omega | (simp only [LN, hs, hne, h35]; omega)) only [go_sem, hs, hne, h35])
     | fail)
    all_goals first | omega | contradiction | (refine loopQ_next (j + 1, true, a + 1) ⟨by show j + 1 ≤ _; omega, fun h => Bool.noConfusion h, by show a + 1 + 1 ≤ j + 1 + 2; omega⟩ (by show 2 * (vs.length - (j + 1)) + 1 < 2 * (vs.length - j) + 1; omega) ?_; (simp -dsimp -implicitDefEqProofs (maxSteps := 1000000) (disch := first | omega | (simp only [LN, hm]; omega)) only [go_sem, hm]; try trivial))
   ·obtain rfl : j = vs.length := by omega
    simp only [Bool.toNat_true] at h3
    have e0 : txL (vs.drop vs.length) = [] := by rw [List.drop_length]; exact txL_nil
    have kc := lCutM [] 10 (by simp) (by decide)
    repeat' (first
     | (with_reducible first | refine r_seq ?_ | refine r_block ?_ | refine fork_not ?_ | refine fork_and ?_ | refine fork_or ?_ | refine chk_ok (by kernel_rfl) ?_)
     | ((with_reducible first | refine fork_dec ?_ ?_ | refine fork_eq ?_ ?_ | refine fork_ne ?_ ?_ | refine fork_intro ?_ ?_) <;> intro h <;> try (exfalso; first | omega | exact h rfl | (revert h; decide) | (cases h; done)))
     | ((with_reducible show False); omega)
     | ((first | (with_reducible first | refine r_exit ?_ | refine r_skip ?_ | refine r_cond ?_ | refine r_region ?_ | refine r_ret ?_ | show VX _ _ _ _ _ _ _ | show vstep _ _ _ _ _ | show vskip _ _ _ | show withV _ _) | ((with_reducible show endA _ _ _ _ _ _ _); simp -implicitDefEqProofs only [endA]) | (with_reducible first | refine pick_viewG default (by first | omega | (simp only [LN, e0]; omega)) (by first | omega | (simp only [LN, e0]; omega)) ?_ | refine pick_own default (by first | omega | (simp only [LN, e0]; omega)) ?_ | refine And.intro (by first | decide | omega | assumption | (simp only [LN, e0]; omega)) ?_) | ((with_reducible apply callK_pure); (exact kc)) | ((with_reducible apply callF_lend); (exact kc); rfl) | ((with_reducible apply callF_go); (exact kc)) | ((with_reducible show pickE _ _ _); first | refine pickE_intro _ ⟨by omega, by rfl⟩ ?_ | refine pickE_intro _ (by rfl) ?_) | fail); try simp -dsimp -implicitDefEqProofs (maxSteps := 1000000) (disch := first | omega | (simp only [LN, e0]; omega)) only [go_sem, e0])
     | fail)
    all_goals first | omega | (exact absurd rfl h) | (refine loopQ_next (vs.length, false, a + 1) ⟨Nat.le_refl _, fun _ => rfl, by show a + 1 + 0 ≤ vs.length + 2; omega⟩ (by show 2 * (vs.length - vs.length) + 0 < 2 * (vs.length - vs.length) + 1; omega) ?_; (simp -dsimp -implicitDefEqProofs (maxSteps := 1000000) (disch := first | omega | (simp only [LN, e0]; omega)) only [go_sem, e0]; try trivial))
end Go.Proofs.YtckhjklcfagkoaaGreatDoor