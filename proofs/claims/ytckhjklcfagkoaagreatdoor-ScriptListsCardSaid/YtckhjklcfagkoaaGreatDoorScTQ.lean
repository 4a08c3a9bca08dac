/- Contracts of functions of this program, and the plain facts that they rest on. No conditions. -/
import Derived.Test.YtckhjklcfagkoaaGreatDoorScSQ
import Derived.Test.YtckhjklcfagkoaaGreatDoorScRQ
set_option linter.unusedSimpArgs false
set_option linter.unusedVariables false
namespace Go.Proofs.YtckhjklcfagkoaaGreatDoor
open Go Go.Ab
attribute [local irreducible] callK callF loopQ vstep vskip pickE hideP
open Go.RowKit
set_option maxRecDepth 100000
attribute [local go_sem] eE rE bs_inj
theorem filt_take {l : List Ev} {i : Nat} (h : i < l.length) : (l.take (i + 1)).filter (fun x => okE x) = (l.take i).filter (fun x => okE x) ++ (if okE (l.getD i default) = true then [l.getD i default] else []) := by
 rw [take_getD default h, List.filter_append]
 congr 1
 rw [List.filter_cons]; rfl
theorem few_rng {l : List Ev} {n : Nat} (hR : ∀ x, x ∈ l → Rng x) : ∀ x, x ∈ fewE l n → Rng x ∧ (0 ≤ x.k ∧ x.k ≤ 255) ∧ x.ch.length ≤ 600 := by
 intro x hx
 obtain ⟨y, hy, rfl⟩ := List.mem_map.1 hx
 exact ⟨plE_rng (hR y (List.mem_of_mem_take hy)), plE_k y, plE_ch y⟩
theorem few_len (l : List Ev) (n : Nat) : (fewE l n).length ≤ n := by unfold fewE; rw [List.length_map, List.length_take]; omega
set_option maxRecDepth 100000 in
set_option maxHeartbeats 4000000 in
theorem cLists (l : List Ev) (hR : ∀ x, x ∈ l → Rng x ∧ x.ch.length ≤ 140737488355328) : PCalls Tryz.prog 6 [.view 8 (l.map rE)] (.v (.bool true)) := by
 refine pcalls_facts ⟨_, rfl, rfl, by decide⟩ fun hf => ?_
 simp only [go_sem, big] at hf
 refine pcalls_of (E := E) (fn := Tryz.f6) 60 [.tmp 2] rfl rfl rfl rfl (by decide) rfl ?_
 have k1 := bFew l 20 (by decide) (fun x hx => (hR x hx).2)
 have hF := few_rng (n := 20) (fun x hx => (hR x hx).1)
 have hFl := few_len l 20
 generalize fewE l 20 = m at *
 have k2 := bOwnL m (by omega) (fun x hx => ⟨(hF x hx).2.1, by have := (hF x hx).2.2; omega⟩)
 have k3 := sTextL m (by omega) (fun x hx => ⟨(hF x hx).1, by have := (hF x hx).2.2; omega⟩)
 have hfl : (m.filter fun x => okE x).length ≤ m.length := List.length_filter_le _ _
 have hmf : ∀ x, x ∈ (m.filter fun x => okE x) → x ∈ m ∧ okE x = true := fun x hx => List.mem_filter.1 hx
 have k4 := sParse (m.filter fun x => okE x) (fun x hx => (hF x (hmf x hx).1).1) (fun x hx => (hmf x hx).2) (by omega)
 rw [txL_filter] at k4
 have k5 := bSame (m.filter fun x => okE x) (by omega) (fun x hx => (hF x (hmf x hx).1).2.1)
 repeat' (first
  | (with_reducible first | refine r_seq ?_ | refine r_block ?_ | refine fork_not ?_ | refine fork_and ?_ | refine fork_or ?_ | refine chk_ok (by kernel_rfl) ?_)
  | ((with_reducible first | refine fork_dec ?_ ?_ | refine fork_eq ?_ ?_ | refine fork_ne ?_ ?_ | refine fork_intro ?_ ?_) <;> intro h)
  | ((with_reducible show False); omega)
  | ((first | (with_reducible first | refine r_exit ?_ | refine r_skip ?_ | refine r_cond ?_ | refine r_region ?_ | refine r_ret ?_ | show VX _ _ _ _ _ _ _ | show vstep _ _ _ _ _ | show vskip _ _ _ | show withV _ _) | ((with_reducible show endA _ _ _ _ _ _ _); simp -implicitDefEqProofs only [endA]) | (with_reducible first | refine pick_viewG default (by first | omega | (simp only [LN]; omega)) (by first | omega | (simp only [LN]; omega)) ?_ | refine pick_own default (by first | omega | (simp only [LN]; omega)) ?_ | refine And.intro (by first | decide | omega | assumption | (simp only [LN]; omega)) ?_) | ((with_reducible apply callK_pure); (exact k1)) | ((with_reducible apply callF_lend); (exact k1); rfl) | ((with_reducible apply callF_go); (exact k1)) | ((with_reducible show pickE _ _ _); first | refine pickE_intro _ ⟨by omega, by rfl⟩ ?_ | refine pickE_intro _ (by rfl) ?_) | fail); try simp -dsimp -implicitDefEqProofs (maxSteps := 1000000) (disch := first | omega | (simp only [LN]; omega)) only [go_sem])
  | fail)
 refine r_loopA (α := Nat) [0, 14, 15] (fun i b => [(3, .p (.v (.string (bs (txL (m.take i)))))), (4, .sl b 8 0 ((m.take i).filter fun x => okE x).length), (16, aI i)]) (fun i b => []) (fun i => [.arr 8 (((m.take i).filter fun x => okE x).map rE)]) (fun i => i ≤ m.length) (fun i => m.length - i) (0) ?h0_1 ?hs0_1 ?I_1 ?hI_1 ?round_1
 case hI_1 => intro x; (simp -dsimp -implicitDefEqProofs (maxSteps := 1000000) (disch := first | omega | (simp only [LN]; omega)) only [go_sem]) <;> exact rfl
 case hs0_1 => refine wk_auto ?_; (simp -dsimp -implicitDefEqProofs (maxSteps := 1000000) (disch := first | omega | (simp only [LN, List.take_zero, List.filter_nil, txL_nil]; omega)) only [go_sem, List.take_zero, List.filter_nil, txL_nil]) <;> (try omega)
 case h0_1 => exact Nat.zero_le _
 case round_1 =>
  intro i h1
  have htl := txL_len (m.take i) (fun x hx => (hF x (List.mem_of_mem_take hx)).1)
  rw [List.length_take, Nat.min_eq_left h1] at htl
  have hfi : ((m.take i).filter fun x => okE x).length ≤ i := by
   have := List.length_filter_le (fun x => okE x) (m.take i)
   rw [List.length_take] at this; omega
  by_cases h3 : i < m.length
  ·obtain ⟨g1, g2, g3⟩ := hF _ (getD_in h3)
   have kv := rValid (m.getD i default) (by omega)
   have kt := rText (m.getD i default) g1 (by omega)
   have hs := txL_take h3
   have hq := filt_take h3
   generalize hxx : m.getD i default = x at *
   cases hv : okE x with
   | true =>
    have e : txV x = txE x := by unfold txV; rw [hv]; rfl
    have hln : lnE x = txE x ++ [10] := by unfold lnE; rw [hv]; rfl
    have hle := txE_len hv g1
    rw [hv] at kv
    rw [e] at kt
    rw [hln] at hs
    rw [hv, if_pos rfl] at hq
    repeat' (first
     | (with_reducible first | refine r_seq ?_ | refine r_block ?_ | refine fork_not ?_ | refine fork_and ?_ | refine fork_or ?_ | refine chk_ok (by kernel_rfl) ?_)
     | ((with_reducible first | refine fork_dec ?_ ?_ | refine fork_eq ?_ ?_ | refine fork_ne ?_ ?_ | refine fork_intro ?_ ?_) <;> intro h <;> try (exfalso; first | omega | exact h rfl | (revert h; decide) | (cases h; done)))
     | ((with_reducible show False); omega)
     | ((first | (with_reducible first | refine r_exit ?_ | refine r_skip ?_ | refine r_cond ?_ | refine r_region ?_ | refine r_ret ?_ | show VX _ _ _ _ _ _ _ | show vstep _ _ _ _ _ | show vskip _ _ _ | show withV _ _) | ((with_reducible show endA _ _ _ _ _ _ _); simp -implicitDefEqProofs only [endA]) | (with_reducible first | refine pick_viewG default (by first | omega | (simp only [LN, hxx]; omega)) (by first | omega | (simp only [LN, hxx]; omega)) ?_ | refine pick_own default (by first | omega | (simp only [LN, hxx]; omega)) ?_ | refine And.intro (by first | decide | omega | assumption | (simp only [LN, hxx]; omega)) ?_) | ((with_reducible apply callK_pure); (first | exact kv | exact kt | fail)) | ((with_reducible apply callF_lend); (first | exact kv | exact kt | fail); rfl) | ((with_reducible apply callF_go); (first | exact kv | exact kt | fail)) | ((with_reducible show pickE _ _ _); first | refine pickE_intro _ ⟨by omega, by rfl⟩ ?_ | refine pickE_intro _ (by rfl) ?_) | fail); try simp -dsimp -implicitDefEqProofs (maxSteps := 1000000) (disch := first | omega | (simp only [LN, hxx]; omega)) only [go_sem, hxx])
     | fail)
    all_goals first | omega | (refine loopQ_next (i + 1) ?_ ?_ ?_; (omega); (show _ < _; omega); (simp -dsimp -implicitDefEqProofs (maxSteps := 1000000) (disch := first | omega | (simp only [LN, hs, hq, List.map_append, List.map_cons, List.map_nil, List.length_append, List.length_cons, List.length_nil]; omega)) only [go_sem, hs, hq, List.map_append, List.map_cons, List.map_nil, List.length_append, List.length_cons, List.length_nil]; try trivial))
   | false =>
    have hln : lnE x = [] := by unfold lnE; rw [hv]; rfl
    rw [hv] at kv
    rw [hln, List.append_nil] at hs
    rw [hv] at hq
    simp only [Bool.false_eq_true, if_false, List.append_nil] at hq
    repeat' (first
     | (with_reducible first | refine r_seq ?_ | refine r_block ?_ | refine fork_not ?_ | refine fork_and ?_ | refine fork_or ?_ | refine chk_ok (by kernel_rfl) ?_)
     | ((with_reducible first | refine fork_dec ?_ ?_ | refine fork_eq ?_ ?_ | refine fork_ne ?_ ?_ | refine fork_intro ?_ ?_) <;> intro h <;> try (exfalso; first | omega | exact h rfl | (revert h; decide) | (cases h; done)))
     | ((with_reducible show False); omega)
     | ((first | (with_reducible first | refine r_exit ?_ | refine r_skip ?_ | refine r_cond ?_ | refine r_region ?_ | refine r_ret ?_ | show VX _ _ _ _ _ _ _ | show vstep _ _ _ _ _ | show vskip _ _ _ | show withV _ _) | ((with_reducible show endA _ _ _ _ _ _ _); simp -implicitDefEqProofs only [endA]) | (with_reducible first | refine pick_viewG default (by first | omega | (simp only [LN, hxx]; omega)) (by first | omega | (simp only [LN, hxx]; omega)) ?_ | refine pick_own default (by first | omega | (simp only [LN, hxx]; omega)) ?_ | refine And.intro (by first | decide | omega | assumption | (simp only [LN, hxx]; omega)) ?_) | ((with_reducible apply callK_pure); (exact kv)) | ((with_reducible apply callF_lend); (exact kv); rfl) | ((with_reducible apply callF_go); (exact kv)) | ((with_reducible show pickE _ _ _); first | refine pickE_intro _ ⟨by omega, by rfl⟩ ?_ | refine pickE_intro _ (by rfl) ?_) | fail); try simp -dsimp -implicitDefEqProofs (maxSteps := 1000000) (disch := first | omega | (simp only [LN, hxx]; omega)) only [go_sem, hxx])
     | fail)
    all_goals first | omega | (refine loopQ_next (i + 1) ?_ ?_ ?_; (omega); (show _ < _; omega); (simp -dsimp -implicitDefEqProofs (maxSteps := 1000000) (disch := first | omega | (simp only [LN, hs, hq]; omega)) only [go_sem, hs, hq]; try trivial))
  ·obtain rfl : i = m.length := by omega
   have ht := List.take_length (l := m)
   repeat' (first
    | (with_reducible first | refine r_seq ?_ | refine r_block ?_ | refine fork_not ?_ | refine fork_and ?_ | refine fork_or ?_ | refine chk_ok (by kernel_rfl) ?_)
    | ((with_reducible first | refine fork_dec ?_ ?_ | refine fork_eq ?_ ?_ | refine fork_ne ?_ ?_ | refine fork_intro ?_ ?_) <;> intro h <;> try (exfalso; first | omega | exact h rfl | (revert h; decide) | (cases h; done)))
    | ((with_reducible show False); omega)
    | ((first | (with_reducible first | refine r_exit ?_ | refine r_skip ?_ | refine r_cond ?_ | refine r_region ?_ | refine r_ret ?_ | show VX _ _ _ _ _ _ _ | show vstep _ _ _ _ _ | show vskip _ _ _ | show withV _ _) | ((with_reducible show endA _ _ _ _ _ _ _); simp -implicitDefEqProofs only [endA]) | (with_reducible first | refine pick_viewG default (by first | omega | (simp only [LN, ht]; omega)) (by first | omega | (simp only [LN, ht]; omega)) ?_ | refine pick_own default (by first | omega | (simp only [LN, ht]; omega)) ?_ | refine And.intro (by first | decide | omega | assumption | (simp only [LN, ht]; omega)) ?_) | ((with_reducible apply callK_pure); (first | exact k2 | exact k3 | exact k4 | exact k5 | exact sAwake | fail)) | ((with_reducible apply callF_lend); (first | exact k2 | exact k3 | exact k4 | exact k5 | exact sAwake | fail); rfl) | ((with_reducible apply callF_go); (first | exact k2 | exact k3 | exact k4 | exact k5 | exact sAwake | fail)) | ((with_reducible show pickE _ _ _); first | refine pickE_intro _ ⟨by omega, by rfl⟩ ?_ | refine pickE_intro _ (by rfl) ?_) | fail); try simp -dsimp -implicitDefEqProofs (maxSteps := 1000000) (disch := first | omega | (simp only [LN, ht]; omega)) only [go_sem, ht])
    | fail)
   all_goals first | omega | rfl | (exfalso; simp at *; done) | (simp; done)
end Go.Proofs.YtckhjklcfagkoaaGreatDoor