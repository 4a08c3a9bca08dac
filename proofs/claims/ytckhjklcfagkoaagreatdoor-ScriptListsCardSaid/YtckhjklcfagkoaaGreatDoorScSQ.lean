/- Contracts of functions of this program, and the plain facts that they rest on. No conditions. -/
import Derived.Test.YtckhjklcfagkoaaGreatDoorScIQ
import Derived.Test.YtckhjklcfagkoaaGreatDoorScOQ
import Derived.Test.YtckhjklcfagkoaaGreatDoorBldQ
set_option linter.unusedSimpArgs false
set_option linter.unusedVariables false
namespace Go.Proofs.YtckhjklcfagkoaaGreatDoor
open Go Go.Ab
attribute [local irreducible] callK callF loopQ vstep vskip pickE hideP
open Go.RowKit
set_option maxRecDepth 100000
attribute [local go_sem] eE rE eT bs_inj ext_bs byteAt_bs
def fewE (l : List Ev) (n : Nat) : List Ev := (l.take n).map plE
theorem getD_in {l : List Ev} {i : Nat} (h : i < l.length) : l.getD i default ∈ l := by
 rw [List.getD_eq_getElem?_getD, List.getElem?_eq_getElem h]; exact List.getElem_mem h
theorem map_take2 {β : Type} {f : Ev → β} {l : List Ev} {i : Nat} (h : i < l.length) : (l.take (i + 1)).map f = (l.take i).map f ++ [f (l.getD i default)] := by
 rw [take_getD default h, List.map_append]; rfl
set_option maxRecDepth 100000 in
set_option maxHeartbeats 4000000 in
theorem bFew (l : List Ev) (n : Nat) (hn : n ≤ 1000) (hc : ∀ x, x ∈ l → x.ch.length ≤ 140737488355328) : PCalls Tryz.prog 10 [.view 8 (l.map rE), .v (.int .i64 n)] (.view 8 ((fewE l n).map rE)) := by
 refine pcalls_facts ⟨_, rfl, rfl, by decide⟩ fun hf => ?_
 simp only [go_sem, big] at hf
 refine pcalls_of (E := E) (fn := Tryz.f10) 28 [.tmp 4] rfl rfl rfl rfl (by decide) rfl ?_
 repeat' (first
  | (with_reducible first | refine r_seq ?_ | refine r_block ?_ | refine fork_not ?_ | refine fork_and ?_ | refine fork_or ?_ | refine chk_ok (by kernel_rfl) ?_)
  | ((with_reducible first | refine fork_dec ?_ ?_ | refine fork_eq ?_ ?_ | refine fork_ne ?_ ?_ | refine fork_intro ?_ ?_) <;> intro h)
  | ((with_reducible show False); omega)
  | ((first | (with_reducible first | refine r_exit ?_ | refine r_skip ?_ | refine r_cond ?_ | refine r_region ?_ | refine r_ret ?_ | show VX _ _ _ _ _ _ _ | show vstep _ _ _ _ _ | show vskip _ _ _ | show withV _ _) | ((with_reducible show endA _ _ _ _ _ _ _); simp -implicitDefEqProofs only [endA]) | (with_reducible first | refine pick_viewG default (by first | omega | (simp only [LN]; omega)) (by first | omega | (simp only [LN]; omega)) ?_ | refine pick_own default (by first | omega | (simp only [LN]; omega)) ?_ | refine And.intro (by first | decide | omega | assumption | (simp only [LN]; omega)) ?_) | ((with_reducible show pickE _ _ _); first | refine pickE_intro _ ⟨by omega, by rfl⟩ ?_ | refine pickE_intro _ (by rfl) ?_) | fail); try simp -dsimp -implicitDefEqProofs (maxSteps := 1000000) (disch := first | omega | (simp only [LN]; omega)) only [go_sem])
  | fail)
 refine r_loopA (α := Nat) [0, 1] (fun i b => [(5, .sl b 8 0 i), (6, aI i)]) (fun i b => []) (fun i => [.arr 8 ((fewE l i).map rE)]) (fun i => i ≤ l.length ∧ i ≤ n) (fun i => n - i) (0) ?h0_1 ?hs0_1 ?I_1 ?hI_1 ?round_1
 case hI_1 => intro x; (simp -dsimp -implicitDefEqProofs (maxSteps := 1000000) (disch := first | omega | (simp only [LN]; omega)) only [go_sem]) <;> exact rfl
 case hs0_1 => refine wk_auto ?_; (simp -dsimp -implicitDefEqProofs (maxSteps := 1000000) (disch := first | omega | (simp only [LN, fewE, List.take_zero, List.map_nil]; omega)) only [go_sem, fewE, List.take_zero, List.map_nil]) <;> (try omega)
 case h0_1 => exact ⟨Nat.zero_le _, Nat.zero_le _⟩
 case round_1 =>
  rintro i ⟨h1, h2⟩
  have hlen : (fewE l i).length = i := by unfold fewE; rw [List.length_map, List.length_take]; omega
  by_cases h : i < l.length ∧ i < n
  ·obtain ⟨h3, h4⟩ := h
   have kp := bPlain (l.getD i default) (hc _ (getD_in h3))
   have hs : (fewE l (i + 1)).map rE = (fewE l i).map rE ++ [rE (plE (l.getD i default))] := by unfold fewE; rw [map_take2 h3, List.map_append]; rfl
   generalize hxx : l.getD i default = x at *
   repeat' (first
    | (with_reducible first | refine r_seq ?_ | refine r_block ?_ | refine fork_not ?_ | refine fork_and ?_ | refine fork_or ?_ | refine chk_ok (by kernel_rfl) ?_)
    | ((with_reducible first | refine fork_dec ?_ ?_ | refine fork_eq ?_ ?_ | refine fork_ne ?_ ?_ | refine fork_intro ?_ ?_) <;> intro h <;> try (exfalso; first | omega | exact h rfl | (revert h; decide) | (cases h; done)))
    | ((with_reducible show False); omega)
    | ((first | (with_reducible first | refine r_exit ?_ | refine r_skip ?_ | refine r_cond ?_ | refine r_region ?_ | refine r_ret ?_ | show VX _ _ _ _ _ _ _ | show vstep _ _ _ _ _ | show vskip _ _ _ | show withV _ _) | ((with_reducible show endA _ _ _ _ _ _ _); simp -implicitDefEqProofs only [endA]) | (with_reducible first | refine pick_viewG default (by first | omega | (simp only [LN, hxx, hlen]; omega)) (by first | omega | (simp only [LN, hxx, hlen]; omega)) ?_ | refine pick_own default (by first | omega | (simp only [LN, hxx, hlen]; omega)) ?_ | refine And.intro (by first | decide | omega | assumption | (simp only [LN, hxx, hlen]; omega)) ?_) | ((with_reducible apply callK_pure); (exact kp)) | ((with_reducible apply callF_lend); (exact kp); rfl) | ((with_reducible apply callF_go); (exact kp)) | ((with_reducible show pickE _ _ _); first | refine pickE_intro _ ⟨by omega, by rfl⟩ ?_ | refine pickE_intro _ (by rfl) ?_) | fail); try simp -dsimp -implicitDefEqProofs (maxSteps := 1000000) (disch := first | omega | (simp only [LN, hxx, hlen]; omega)) only [go_sem, hxx, hlen])
    | fail)
   all_goals first | omega | (refine loopQ_next (i + 1) ?_ ?_ ?_; (omega); (show _ < _; omega); (simp -dsimp -implicitDefEqProofs (maxSteps := 1000000) (disch := first | omega | (simp only [LN, hs]; omega)) only [go_sem, hs]; try trivial))
  ·have he : fewE l i = fewE l n := by
    unfold fewE
    by_cases h5 : i < n
    ·rw [show i = l.length by omega, List.take_length, List.take_of_length_le (by omega)]
    ·rw [show i = n by omega]
   have ht : List.take i ((fewE l n).map rE) = (fewE l n).map rE := List.take_of_length_le (by rw [List.length_map, ← he, hlen]; omega)
   repeat' (first
    | (with_reducible first | refine r_seq ?_ | refine r_block ?_ | refine fork_not ?_ | refine fork_and ?_ | refine fork_or ?_ | refine chk_ok (by kernel_rfl) ?_)
    | ((with_reducible first | refine fork_dec ?_ ?_ | refine fork_eq ?_ ?_ | refine fork_ne ?_ ?_ | refine fork_intro ?_ ?_) <;> intro h <;> try (exfalso; first | omega | exact h rfl | (revert h; decide) | (cases h; done)))
    | ((with_reducible show False); omega)
    | ((first | (with_reducible first | refine r_exit ?_ | refine r_skip ?_ | refine r_cond ?_ | refine r_region ?_ | refine r_ret ?_ | show VX _ _ _ _ _ _ _ | show vstep _ _ _ _ _ | show vskip _ _ _ | show withV _ _) | ((with_reducible show endA _ _ _ _ _ _ _); simp -implicitDefEqProofs only [endA]) | (with_reducible first | refine pick_viewG default (by first | omega | (simp only [LN, he, ht]; omega)) (by first | omega | (simp only [LN, he, ht]; omega)) ?_ | refine pick_own default (by first | omega | (simp only [LN, he, ht]; omega)) ?_ | refine And.intro (by first | decide | omega | assumption | (simp only [LN, he, ht]; omega)) ?_) | ((with_reducible show pickE _ _ _); first | refine pickE_intro _ ⟨by omega, by rfl⟩ ?_ | refine pickE_intro _ (by rfl) ?_) | fail); try simp -dsimp -implicitDefEqProofs (maxSteps := 1000000) (disch := first | omega | (simp only [LN, he, ht]; omega)) only [go_sem, he, ht])
    | fail)
   all_goals first | omega | rfl | (rw [← he]; exact hlen)
set_option maxRecDepth 100000 in
set_option maxHeartbeats 4000000 in
theorem bOwnL (l : List Ev) (hn : l.length ≤ 1000) (hk : ∀ x, x ∈ l → (0 ≤ x.k ∧ x.k ≤ 255) ∧ x.ch.length ≤ 1000000) : PCalls Tryz.prog 17 [.view 8 (l.map rE)] (.view 8 (l.map eE)) := by
 refine pcalls_facts ⟨_, rfl, rfl, by decide⟩ fun hf => ?_
 simp only [go_sem, big] at hf
 refine pcalls_of (E := E) (fn := Tryz.f17) 19 [.tmp 2] rfl rfl rfl rfl (by decide) rfl ?_
 repeat' (first
  | (with_reducible first | refine r_seq ?_ | refine r_block ?_ | refine fork_not ?_ | refine fork_and ?_ | refine fork_or ?_ | refine chk_ok (by kernel_rfl) ?_)
  | ((with_reducible first | refine fork_dec ?_ ?_ | refine fork_eq ?_ ?_ | refine fork_ne ?_ ?_ | refine fork_intro ?_ ?_) <;> intro h)
  | ((with_reducible show False); omega)
  | ((first | (with_reducible first | refine r_exit ?_ | refine r_skip ?_ | refine r_cond ?_ | refine r_region ?_ | refine r_ret ?_ | show VX _ _ _ _ _ _ _ | show vstep _ _ _ _ _ | show vskip _ _ _ | show withV _ _) | ((with_reducible show endA _ _ _ _ _ _ _); simp -implicitDefEqProofs only [endA]) | (with_reducible first | refine pick_viewG default (by first | omega | (simp only [LN]; omega)) (by first | omega | (simp only [LN]; omega)) ?_ | refine pick_own default (by first | omega | (simp only [LN]; omega)) ?_ | refine And.intro (by first | decide | omega | assumption | (simp only [LN]; omega)) ?_) | ((with_reducible show pickE _ _ _); first | refine pickE_intro _ ⟨by omega, by rfl⟩ ?_ | refine pickE_intro _ (by rfl) ?_) | fail); try simp -dsimp -implicitDefEqProofs (maxSteps := 1000000) (disch := first | omega | (simp only [LN]; omega)) only [go_sem])
  | fail)
 refine r_loopA (α := Nat) [6, 7] (fun i b => [(3, .sl b 8 0 i), (8, aI i)]) (fun i b => []) (fun i => [.arr 8 ((l.take i).map eE)]) (fun i => i ≤ l.length) (fun i => l.length - i) (0) ?h0_2 ?hs0_2 ?I_2 ?hI_2 ?round_2
 case hI_2 => intro x; (simp -dsimp -implicitDefEqProofs (maxSteps := 1000000) (disch := first | omega | (simp only [LN]; omega)) only [go_sem]) <;> exact rfl
 case hs0_2 => refine wk_auto ?_; (simp -dsimp -implicitDefEqProofs (maxSteps := 1000000) (disch := first | omega | (simp only [LN, List.take_zero, List.map_nil]; omega)) only [go_sem, List.take_zero, List.map_nil]) <;> (try omega)
 case h0_2 => exact Nat.zero_le _
 case round_2 =>
  intro i h1
  by_cases h3 : i < l.length
  ·obtain ⟨g1, g2⟩ := hk _ (getD_in h3)
   have kp := bOwn (l.getD i default) g1 g2
   have hs := map_take2 (f := eE) h3
   generalize hxx : l.getD i default = x at *
   repeat' (first
    | (with_reducible first | refine r_seq ?_ | refine r_block ?_ | refine fork_not ?_ | refine fork_and ?_ | refine fork_or ?_ | refine chk_ok (by kernel_rfl) ?_)
    | ((with_reducible first | refine fork_dec ?_ ?_ | refine fork_eq ?_ ?_ | refine fork_ne ?_ ?_ | refine fork_intro ?_ ?_) <;> intro h <;> try (exfalso; first | omega | exact h rfl | (revert h; decide) | (cases h; done)))
    | ((with_reducible show False); omega)
    | ((first | (with_reducible first | refine r_exit ?_ | refine r_skip ?_ | refine r_cond ?_ | refine r_region ?_ | refine r_ret ?_ | show VX _ _ _ _ _ _ _ | show vstep _ _ _ _ _ | show vskip _ _ _ | show withV _ _) | ((with_reducible show endA _ _ _ _ _ _ _); simp -implicitDefEqProofs only [endA]) | (with_reducible first | refine pick_viewG default (by first | omega | (simp only [LN, hxx]; omega)) (by first | omega | (simp only [LN, hxx]; omega)) ?_ | refine pick_own default (by first | omega | (simp only [LN, hxx]; omega)) ?_ | refine And.intro (by first | decide | omega | assumption | (simp only [LN, hxx]; omega)) ?_) | ((with_reducible apply callK_pure); (exact kp)) | ((with_reducible apply callF_lend); (exact kp); rfl) | ((with_reducible apply callF_go); (exact kp)) | ((with_reducible show pickE _ _ _); first | refine pickE_intro _ ⟨by omega, by rfl⟩ ?_ | refine pickE_intro _ (by rfl) ?_) | fail); try simp -dsimp -implicitDefEqProofs (maxSteps := 1000000) (disch := first | omega | (simp only [LN, hxx]; omega)) only [go_sem, hxx])
    | fail)
   all_goals first | omega | (refine loopQ_next (i + 1) ?_ ?_ ?_; (omega); (show _ < _; omega); (simp -dsimp -implicitDefEqProofs (maxSteps := 1000000) (disch := first | omega | (simp only [LN, hs]; omega)) only [go_sem, hs]; try trivial))
  ·obtain rfl : i = l.length := by omega
   have ht := List.take_length (l := l)
   repeat' (first
    | (with_reducible first | refine r_seq ?_ | refine r_block ?_ | refine fork_not ?_ | refine fork_and ?_ | refine fork_or ?_ | refine chk_ok (by kernel_rfl) ?_)
    | ((with_reducible first | refine fork_dec ?_ ?_ | refine fork_eq ?_ ?_ | refine fork_ne ?_ ?_ | refine fork_intro ?_ ?_) <;> intro h <;> try (exfalso; first | omega | exact h rfl | (revert h; decide) | (cases h; done)))
    | ((with_reducible show False); omega)
    | ((first | (with_reducible first | refine r_exit ?_ | refine r_skip ?_ | refine r_cond ?_ | refine r_region ?_ | refine r_ret ?_ | show VX _ _ _ _ _ _ _ | show vstep _ _ _ _ _ | show vskip _ _ _ | show withV _ _) | ((with_reducible show endA _ _ _ _ _ _ _); simp -implicitDefEqProofs only [endA]) | (with_reducible first | refine pick_viewG default (by first | omega | (simp only [LN, ht]; omega)) (by first | omega | (simp only [LN, ht]; omega)) ?_ | refine pick_own default (by first | omega | (simp only [LN, ht]; omega)) ?_ | refine And.intro (by first | decide | omega | assumption | (simp only [LN, ht]; omega)) ?_) | ((with_reducible show pickE _ _ _); first | refine pickE_intro _ ⟨by omega, by rfl⟩ ?_ | refine pickE_intro _ (by rfl) ?_) | fail); try simp -dsimp -implicitDefEqProofs (maxSteps := 1000000) (disch := first | omega | (simp only [LN, ht]; omega)) only [go_sem, ht])
    | fail)
   all_goals first | omega | rfl
theorem dWS (b s : List UInt8) (n : Nat) (hn : n = b.length) (h0 : n + s.length ≠ 0) (hlen : n + s.length ≤ 1000000000) :
  ACalls Tryz.prog 71 [.loc 0 0, .p (.v (.string (bs s)))] [.bld 130 (.sl 1 1 0 n), .byt 5 b] (.p (.tup [.v (.int .i64 s.length), .v .nilIface])) [.bld 130 (.sl 2 1 0 (b ++ s).length), .dead, .byt 5 (b ++ s)] := by
 subst hn
 have := ac_writeStringE (P := Tryz.prog) (f := 71) ⟨_, rfl, rfl, by decide⟩ (fun b p v b2 s w hp h hl => Tryz.b_writeString b p v b2 s w hp h hl) b (bs s) (by rw [bs_size]; exact h0) (by rw [bs_size]; omega)
 rw [bs_size] at this; exact this
theorem dWB (b : List UInt8) (n : Nat) (hn : n = b.length) (h0 : n ≠ 0) (hlen : n ≤ 1000000000) :
  ACalls Tryz.prog 73 [.loc 0 0, .p (.v (.int .u8 10))] [.bld 130 (.sl 1 1 0 n), .byt 5 b] (.p (.v .nilIface)) [.bld 130 (.sl 2 1 0 (b ++ [10]).length), .dead, .byt 5 (b ++ [10])] := by
 subst hn
 exact ac_writeByte (P := Tryz.prog) (f := 73) ⟨_, rfl, rfl, by decide⟩ (fun b p v b2 c w hp h hl => Tryz.b_writeByte b p v b2 c w hp h hl) b 10 (by decide) h0 (by omega)
theorem dSt (b : List UInt8) (n : Nat) (hn : n = b.length) (h0 : n ≠ 0) :
  ACalls Tryz.prog 74 [.loc 0 0] [.bld 130 (.sl 1 1 0 n), .byt 5 b] (.p (.v (.string (bs b)))) [.bld 130 (.sl 2 1 0 b.length), .dead, .byt 5 b] := by
 subst hn
 exact ac_string (P := Tryz.prog) (f := 74) ⟨_, rfl, rfl, by decide⟩ (fun b p v l w h hl => b_string Tryz.lays169 Tryz.Builder_Extra_169 b p v l w h hl) b h0
theorem dSt0 : ACalls Tryz.prog 74 [.loc 0 0] [.bld 130 (.p (.v (.slice none 0 0)))] (.p (.v (.string ⟨#[]⟩))) [.bld 130 (.p (.v (.slice none 0 0)))] :=
 ac_string0 (P := Tryz.prog) (f := 74) ⟨_, rfl, rfl, by decide⟩ (fun b p w h => b_string0 Tryz.lays169 Tryz.Builder_Extra_169 b p w h)
theorem txL_take {l : List Ev} {i : Nat} (h : i < l.length) : txL (l.take (i + 1)) = txL (l.take i) ++ lnE (l.getD i default) := by
 rw [take_getD default h, txL_app]; simp [txL]
theorem txL_filter : ∀ l : List Ev, txL (l.filter fun x => okE x) = txL l
 | [] => rfl
 | x :: l => by
  have ih := txL_filter l
  cases h : okE x with
  | true => rw [List.filter_cons_of_pos (by simpa using h), txL, txL, ih]
  | false => rw [List.filter_cons_of_neg (by simp [h]), txL, ih, lnE, h]; rfl
attribute [local irreducible] txL
theorem txE_pos {x : Ev} (h : okE x = true) (R : Rng x) : 0 < (txE x).length := by have := tx_len5 h R; omega
set_option maxRecDepth 100000 in
set_option maxHeartbeats 4000000 in
theorem sTextL1 (l : List Ev) (hn : l.length ≤ 1000) (hR : ∀ x, x ∈ l → Rng x ∧ x.ch.length ≤ 1000000) (hne : ¬ txL l = []) : PCalls Tryz.prog 25 [.view 8 (l.map eE)] (.v (.string (bs (txL l)))) := by
 refine pcalls_facts ⟨_, rfl, rfl, by decide⟩ fun hf => ?_
 simp only [go_sem, big] at hf
 refine pcalls_of (E := E) (fn := Tryz.f25) 20 [.tmp 2] rfl rfl rfl rfl (by decide) rfl ?_
 have h0 : txL [] = [] := txL_nil
 have hlpos : (txL l).length ≠ 0 := fun e => hne (List.length_eq_zero_iff.1 e)
 repeat' (first
  | (with_reducible first | refine r_seq ?_ | refine r_block ?_ | refine fork_not ?_ | refine fork_and ?_ | refine fork_or ?_ | refine chk_ok (by kernel_rfl) ?_)
  | ((with_reducible first | refine fork_dec ?_ ?_ | refine fork_eq ?_ ?_ | refine fork_ne ?_ ?_ | refine fork_intro ?_ ?_) <;> intro h)
  | ((with_reducible show False); omega)
  | ((first | (with_reducible first | refine r_exit ?_ | refine r_skip ?_ | refine r_cond ?_ | refine r_region ?_ | refine r_ret ?_ | show VX _ _ _ _ _ _ _ | show vstep _ _ _ _ _ | show vskip _ _ _ | show withV _ _) | ((with_reducible show endA _ _ _ _ _ _ _); simp -implicitDefEqProofs only [endA]) | (with_reducible first | refine pick_viewG default (by first | omega | (simp only [LN]; omega)) (by first | omega | (simp only [LN]; omega)) ?_ | refine pick_own default (by first | omega | (simp only [LN]; omega)) ?_ | refine And.intro (by first | decide | omega | assumption | (simp only [LN]; omega)) ?_) | ((with_reducible show pickE _ _ _); first | refine pickE_intro _ ⟨by omega, by rfl⟩ ?_ | refine pickE_intro _ (by rfl) ?_) | fail); try simp -dsimp -implicitDefEqProofs (maxSteps := 1000000) (disch := first | omega | (simp only [LN]; omega)) only [go_sem])
  | fail)
 refine r_loopA (α := Nat) [3, 6, 7] (fun i b => [(8, aI i)]) (fun i b => [(3, .bld 130 (.sl b 1 0 (txL (l.take i)).length))]) (fun i => [.byt 5 (txL (l.take i))]) (fun i => i ≤ l.length) (fun i => l.length - i) (0) ?h0_3 ?hs0_3 ?I_3 ?hI_3 ?round_3
 case hI_3 => intro x; (simp -dsimp -implicitDefEqProofs (maxSteps := 1000000) (disch := first | omega | (simp only [LN]; omega)) only [go_sem]) <;> exact rfl
 case hs0_3 => refine wk_auto ?_; (simp -dsimp -implicitDefEqProofs (maxSteps := 1000000) (disch := first | omega | (simp only [LN, List.take_zero, h0, List.length_nil]; omega)) only [go_sem, List.take_zero, h0, List.length_nil]) <;> (try omega)
 case h0_3 => exact Nat.zero_le _
 case round_3 =>
  intro i h1
  have htl := txL_len (l.take i) (fun x hx => (hR x (List.mem_of_mem_take hx)).1)
  rw [List.length_take, Nat.min_eq_left h1] at htl
  by_cases h3 : i < l.length
  ·obtain ⟨g1, g2⟩ := hR _ (getD_in h3)
   have kv := sValid (l.getD i default) g2
   have kt := sText (l.getD i default) g1 g2
   have hs := txL_take h3
   generalize hxx : l.getD i default = x at *
   generalize txL (l.take i) = q at *
   cases hv : okE x with
   | true =>
    have e : txV x = txE x := by unfold txV; rw [hv]; rfl
    have hln : lnE x = txE x ++ [10] := by unfold lnE; rw [hv]; rfl
    have hp := txE_pos hv g1
    have hle := txE_len hv g1
    rw [hv] at kv
    rw [e] at kt
    rw [hln, ← List.append_assoc] at hs
    have kw := dWS q (txE x) q.length rfl (by omega) (by omega)
    have kb := dWB (q ++ txE x) (q.length + (txE x).length) (by rw [List.length_append]) (by omega) (by omega)
    repeat' (first
     | (with_reducible first | refine r_seq ?_ | refine r_block ?_ | refine fork_not ?_ | refine fork_and ?_ | refine fork_or ?_ | refine chk_ok (by kernel_rfl) ?_)
     | ((with_reducible first | refine fork_dec ?_ ?_ | refine fork_eq ?_ ?_ | refine fork_ne ?_ ?_ | refine fork_intro ?_ ?_) <;> intro h <;> try (exfalso; first | omega | exact h rfl | (revert h; decide) | (cases h; done)))
     | ((with_reducible show False); omega)
     | ((first | (with_reducible first | refine r_exit ?_ | refine r_skip ?_ | refine r_cond ?_ | refine r_region ?_ | refine r_ret ?_ | show VX _ _ _ _ _ _ _ | show vstep _ _ _ _ _ | show vskip _ _ _ | show withV _ _) | ((with_reducible show endA _ _ _ _ _ _ _); simp -implicitDefEqProofs only [endA]) | (with_reducible first | refine pick_viewG default (by first | omega | (simp only [LN, hxx]; omega)) (by first | omega | (simp only [LN, hxx]; omega)) ?_ | refine pick_own default (by first | omega | (simp only [LN, hxx]; omega)) ?_ | refine And.intro (by first | decide | omega | assumption | (simp only [LN, hxx]; omega)) ?_) | ((with_reducible apply callK_pure); (first | exact kv | exact kt | fail)) | ((with_reducible apply callF_lend); (first | exact kv | exact kt | fail); rfl) | ((with_reducible apply callF_go); (first | exact kv | exact kt | fail)) | (with_reducible first | apply callK_lent | apply callF_lent | apply hideP_own) | ((with_reducible apply callA_go); (first | exact kw | exact kb | fail)) | ((with_reducible show pickE _ _ _); first | refine pickE_intro _ ⟨by omega, by rfl⟩ ?_ | refine pickE_intro _ (by rfl) ?_) | fail); try simp -dsimp -implicitDefEqProofs (maxSteps := 1000000) (disch := first | omega | (simp only [LN, hxx]; omega)) only [go_sem, hxx])
     | fail)
    all_goals first | omega | (refine loopQ_next (i + 1) ?_ ?_ ?_; (omega); (show _ < _; omega); (simp -dsimp -implicitDefEqProofs (maxSteps := 1000000) (disch := first | omega | (simp only [LN, hs]; omega)) only [go_sem, hs]; try trivial))
   | false =>
    have hln : lnE x = [] := by unfold lnE; rw [hv]; rfl
    rw [hv] at kv
    rw [hln, List.append_nil] at hs
    repeat' (first
     | (with_reducible first | refine r_seq ?_ | refine r_block ?_ | refine fork_not ?_ | refine fork_and ?_ | refine fork_or ?_ | refine chk_ok (by kernel_rfl) ?_)
     | ((with_reducible first | refine fork_dec ?_ ?_ | refine fork_eq ?_ ?_ | refine fork_ne ?_ ?_ | refine fork_intro ?_ ?_) <;> intro h <;> try (exfalso; first | omega | exact h rfl | (revert h; decide) | (cases h; done)))
     | ((with_reducible show False); omega)
     | ((first | (with_reducible first | refine r_exit ?_ | refine r_skip ?_ | refine r_cond ?_ | refine r_region ?_ | refine r_ret ?_ | show VX _ _ _ _ _ _ _ | show vstep _ _ _ _ _ | show vskip _ _ _ | show withV _ _) | ((with_reducible show endA _ _ _ _ _ _ _); simp -implicitDefEqProofs only [endA]) | (with_reducible first | refine pick_viewG default (by first | omega | (simp only [LN, hxx]; omega)) (by first | omega | (simp only [LN, hxx]; omega)) ?_ | refine pick_own default (by first | omega | (simp only [LN, hxx]; omega)) ?_ | refine And.intro (by first | decide | omega | assumption | (simp only [LN, hxx]; omega)) ?_) | ((with_reducible apply callK_pure); (exact kv)) | ((with_reducible apply callF_lend); (exact kv); rfl) | ((with_reducible apply callF_go); (exact kv)) | ((with_reducible show pickE _ _ _); first | refine pickE_intro _ ⟨by omega, by rfl⟩ ?_ | refine pickE_intro _ (by rfl) ?_) | fail); try simp -dsimp -implicitDefEqProofs (maxSteps := 1000000) (disch := first | omega | (simp only [LN, hxx]; omega)) only [go_sem, hxx])
     | fail)
    all_goals first | omega | (refine loopQ_next (i + 1) ?_ ?_ ?_; (omega); (show _ < _; omega); (simp -dsimp -implicitDefEqProofs (maxSteps := 1000000) (disch := first | omega | (simp only [LN, hs]; omega)) only [go_sem, hs]; try trivial))
  ·obtain rfl : i = l.length := by omega
   have ht := List.take_length (l := l)
   have ks := dSt (txL l) _ rfl hlpos
   repeat' (first
    | (with_reducible first | refine r_seq ?_ | refine r_block ?_ | refine fork_not ?_ | refine fork_and ?_ | refine fork_or ?_ | refine chk_ok (by kernel_rfl) ?_)
    | ((with_reducible first | refine fork_dec ?_ ?_ | refine fork_eq ?_ ?_ | refine fork_ne ?_ ?_ | refine fork_intro ?_ ?_) <;> intro h <;> try (exfalso; first | omega | exact h rfl | (revert h; decide) | (cases h; done)))
    | ((with_reducible show False); omega)
    | ((first | (with_reducible first | refine r_exit ?_ | refine r_skip ?_ | refine r_cond ?_ | refine r_region ?_ | refine r_ret ?_ | show VX _ _ _ _ _ _ _ | show vstep _ _ _ _ _ | show vskip _ _ _ | show withV _ _) | ((with_reducible show endA _ _ _ _ _ _ _); simp -implicitDefEqProofs only [endA]) | (with_reducible first | refine pick_viewG default (by first | omega | (simp only [LN, ht]; omega)) (by first | omega | (simp only [LN, ht]; omega)) ?_ | refine pick_own default (by first | omega | (simp only [LN, ht]; omega)) ?_ | refine And.intro (by first | decide | omega | assumption | (simp only [LN, ht]; omega)) ?_) | (with_reducible first | apply callK_lent | apply callF_lent | apply hideP_own) | ((with_reducible apply callA_go); (first | exact ks | fail)) | ((with_reducible show pickE _ _ _); first | refine pickE_intro _ ⟨by omega, by rfl⟩ ?_ | refine pickE_intro _ (by rfl) ?_) | fail); try simp -dsimp -implicitDefEqProofs (maxSteps := 1000000) (disch := first | omega | (simp only [LN, ht]; omega)) only [go_sem, ht])
    | fail)
   all_goals first | omega | rfl
theorem tx_none {l : List Ev} (h : txL l = []) (hR : ∀ x, x ∈ l → Rng x) : ∀ x, x ∈ l → okE x = false := by
 intro x hx
 cases hv : okE x with
 | false => rfl
 | true =>
  exfalso
  obtain ⟨a, b, rfl⟩ := List.append_of_mem hx
  rw [txL_app] at h
  have h2 : txL (x :: b) = [] := by
   have := List.append_eq_nil_iff.1 h
   exact this.2
  have h3 : lnE x ++ txL b = [] := by have := h2; unfold txL at this; exact this
  have h4 := (List.append_eq_nil_iff.1 h3).1
  unfold lnE at h4; rw [hv] at h4; simp at h4
set_option maxRecDepth 100000 in
set_option maxHeartbeats 4000000 in
theorem sTextL0 (l : List Ev) (hn : l.length ≤ 1000) (hR : ∀ x, x ∈ l → Rng x ∧ x.ch.length ≤ 1000000) (he : txL l = []) : PCalls Tryz.prog 25 [.view 8 (l.map eE)] (.v (.string (bs (txL l)))) := by
 refine pcalls_facts ⟨_, rfl, rfl, by decide⟩ fun hf => ?_
 simp only [go_sem, big] at hf
 refine pcalls_of (E := E) (fn := Tryz.f25) 20 [.tmp 2] rfl rfl rfl rfl (by decide) rfl ?_
 have hno := tx_none he (fun x hx => (hR x hx).1)
 rw [he]
 repeat' (first
  | (with_reducible first | refine r_seq ?_ | refine r_block ?_ | refine fork_not ?_ | refine fork_and ?_ | refine fork_or ?_ | refine chk_ok (by kernel_rfl) ?_)
  | ((with_reducible first | refine fork_dec ?_ ?_ | refine fork_eq ?_ ?_ | refine fork_ne ?_ ?_ | refine fork_intro ?_ ?_) <;> intro h)
  | ((with_reducible show False); omega)
  | ((first | (with_reducible first | refine r_exit ?_ | refine r_skip ?_ | refine r_cond ?_ | refine r_region ?_ | refine r_ret ?_ | show VX _ _ _ _ _ _ _ | show vstep _ _ _ _ _ | show vskip _ _ _ | show withV _ _) | ((with_reducible show endA _ _ _ _ _ _ _); simp -implicitDefEqProofs only [endA]) | (with_reducible first | refine pick_viewG default (by first | omega | (simp only [LN]; omega)) (by first | omega | (simp only [LN]; omega)) ?_ | refine pick_own default (by first | omega | (simp only [LN]; omega)) ?_ | refine And.intro (by first | decide | omega | assumption | (simp only [LN]; omega)) ?_) | ((with_reducible show pickE _ _ _); first | refine pickE_intro _ ⟨by omega, by rfl⟩ ?_ | refine pickE_intro _ (by rfl) ?_) | fail); try simp -dsimp -implicitDefEqProofs (maxSteps := 1000000) (disch := first | omega | (simp only [LN]; omega)) only [go_sem])
  | fail)
 refine r_loopA (α := Nat) [3, 6, 7] (fun i b => [(8, aI i)]) (fun i b => [(3, .bld 130 (.p (.v (.slice none 0 0))))]) (fun i => []) (fun i => i ≤ l.length) (fun i => l.length - i) (0) ?h0_4 ?hs0_4 ?I_4 ?hI_4 ?round_4
 case hI_4 => intro x; (simp -dsimp -implicitDefEqProofs (maxSteps := 1000000) (disch := first | omega | (simp only [LN]; omega)) only [go_sem]) <;> exact rfl
 case hs0_4 => refine wk_auto ?_; (simp -dsimp -implicitDefEqProofs (maxSteps := 1000000) (disch := first | omega | (simp only [LN]; omega)) only [go_sem]) <;> (try omega)
 case h0_4 => exact Nat.zero_le _
 case round_4 =>
  intro i h1
  by_cases h3 : i < l.length
  ·obtain ⟨g1, g2⟩ := hR _ (getD_in h3)
   have kv := sValid (l.getD i default) g2
   rw [hno _ (getD_in h3)] at kv
   repeat' (first
    | (with_reducible first | refine r_seq ?_ | refine r_block ?_ | refine fork_not ?_ | refine fork_and ?_ | refine fork_or ?_ | refine chk_ok (by kernel_rfl) ?_)
    | ((with_reducible first | refine fork_dec ?_ ?_ | refine fork_eq ?_ ?_ | refine fork_ne ?_ ?_ | refine fork_intro ?_ ?_) <;> intro h <;> try (exfalso; first | omega | exact h rfl | (revert h; decide) | (cases h; done)))
    | ((with_reducible show False); omega)
    | ((first | (with_reducible first | refine r_exit ?_ | refine r_skip ?_ | refine r_cond ?_ | refine r_region ?_ | refine r_ret ?_ | show VX _ _ _ _ _ _ _ | show vstep _ _ _ _ _ | show vskip _ _ _ | show withV _ _) | ((with_reducible show endA _ _ _ _ _ _ _); simp -implicitDefEqProofs only [endA]) | (with_reducible first | refine pick_viewG default (by first | omega | (simp only [LN]; omega)) (by first | omega | (simp only [LN]; omega)) ?_ | refine pick_own default (by first | omega | (simp only [LN]; omega)) ?_ | refine And.intro (by first | decide | omega | assumption | (simp only [LN]; omega)) ?_) | ((with_reducible apply callK_pure); (exact kv)) | ((with_reducible apply callF_lend); (exact kv); rfl) | ((with_reducible apply callF_go); (exact kv)) | ((with_reducible show pickE _ _ _); first | refine pickE_intro _ ⟨by omega, by rfl⟩ ?_ | refine pickE_intro _ (by rfl) ?_) | fail); try simp -dsimp -implicitDefEqProofs (maxSteps := 1000000) (disch := first | omega | (simp only [LN]; omega)) only [go_sem])
    | fail)
   all_goals first | omega | (refine loopQ_next (i + 1) ?_ ?_ ?_; (omega); (show _ < _; omega); (simp -dsimp -implicitDefEqProofs (maxSteps := 1000000) (disch := first | omega | (simp only [LN]; omega)) only [go_sem]; try trivial))
  ·obtain rfl : i = l.length := by omega
   repeat' (first
    | (with_reducible first | refine r_seq ?_ | refine r_block ?_ | refine fork_not ?_ | refine fork_and ?_ | refine fork_or ?_ | refine chk_ok (by kernel_rfl) ?_)
    | ((with_reducible first | refine fork_dec ?_ ?_ | refine fork_eq ?_ ?_ | refine fork_ne ?_ ?_ | refine fork_intro ?_ ?_) <;> intro h <;> try (exfalso; first | omega | exact h rfl | (revert h; decide) | (cases h; done)))
    | ((with_reducible show False); omega)
    | ((first | (with_reducible first | refine r_exit ?_ | refine r_skip ?_ | refine r_cond ?_ | refine r_region ?_ | refine r_ret ?_ | show VX _ _ _ _ _ _ _ | show vstep _ _ _ _ _ | show vskip _ _ _ | show withV _ _) | ((with_reducible show endA _ _ _ _ _ _ _); simp -implicitDefEqProofs only [endA]) | (with_reducible first | refine pick_viewG default (by first | omega | (simp only [LN]; omega)) (by first | omega | (simp only [LN]; omega)) ?_ | refine pick_own default (by first | omega | (simp only [LN]; omega)) ?_ | refine And.intro (by first | decide | omega | assumption | (simp only [LN]; omega)) ?_) | (with_reducible first | apply callK_lent | apply callF_lent | apply hideP_own) | ((with_reducible apply callA_go); (first | exact dSt0 | fail)) | ((with_reducible show pickE _ _ _); first | refine pickE_intro _ ⟨by omega, by rfl⟩ ?_ | refine pickE_intro _ (by rfl) ?_) | fail); try simp -dsimp -implicitDefEqProofs (maxSteps := 1000000) (disch := first | omega | (simp only [LN]; omega)) only [go_sem])
    | fail)
   all_goals first | omega | rfl
theorem sTextL (l : List Ev) (hn : l.length ≤ 1000) (hR : ∀ x, x ∈ l → Rng x ∧ x.ch.length ≤ 1000000) : PCalls Tryz.prog 25 [.view 8 (l.map eE)] (.v (.string (bs (txL l)))) := by
 by_cases h : txL l = []
 ·exact sTextL0 l hn hR h
 ·exact sTextL1 l hn hR h
set_option maxRecDepth 100000 in
set_option maxHeartbeats 4000000 in
theorem bSame (l : List Ev) (hn : l.length ≤ 1000) (hk : ∀ x, x ∈ l → 0 ≤ x.k ∧ x.k ≤ 255) : PCalls Tryz.prog 27 [.view 8 (l.map eE), .view 8 (l.map rE)] (.v (.bool true)) := by
 refine pcalls_facts ⟨_, rfl, rfl, by decide⟩ fun hf => ?_
 simp only [go_sem, big] at hf
 refine pcalls_of (E := E) (fn := Tryz.f27) 82 [.tmp 4] rfl rfl rfl rfl (by decide) rfl ?_
 repeat' (first
  | (with_reducible first | refine r_seq ?_ | refine r_block ?_ | refine fork_not ?_ | refine fork_and ?_ | refine fork_or ?_ | refine chk_ok (by kernel_rfl) ?_)
  | ((with_reducible first | refine fork_dec ?_ ?_ | refine fork_eq ?_ ?_ | refine fork_ne ?_ ?_ | refine fork_intro ?_ ?_) <;> intro h <;> try (exfalso; first | omega | exact h rfl | (revert h; decide) | (cases h; done)))
  | ((with_reducible show False); omega)
  | ((first | (with_reducible first | refine r_exit ?_ | refine r_skip ?_ | refine r_cond ?_ | refine r_region ?_ | refine r_ret ?_ | show VX _ _ _ _ _ _ _ | show vstep _ _ _ _ _ | show vskip _ _ _ | show withV _ _) | ((with_reducible show endA _ _ _ _ _ _ _); simp -implicitDefEqProofs only [endA]) | (with_reducible first | refine pick_viewG default (by first | omega | (simp only [LN]; omega)) (by first | omega | (simp only [LN]; omega)) ?_ | refine pick_own default (by first | omega | (simp only [LN]; omega)) ?_ | refine And.intro (by first | decide | omega | assumption | (simp only [LN]; omega)) ?_) | ((with_reducible show pickE _ _ _); first | refine pickE_intro _ ⟨by omega, by rfl⟩ ?_ | refine pickE_intro _ (by rfl) ?_) | fail); try simp -dsimp -implicitDefEqProofs (maxSteps := 1000000) (disch := first | omega | (simp only [LN]; omega)) only [go_sem])
  | fail)
 all_goals try (exfalso; omega)
 refine r_loopA (α := Nat) [1, 13, 14] (fun i b => [(15, aI i)]) (fun i b => []) (fun i => []) (fun i => i ≤ l.length) (fun i => l.length - i) (0) ?h0_5 ?hs0_5 ?I_5 ?hI_5 ?round_5
 case hI_5 => intro x; (simp -dsimp -implicitDefEqProofs (maxSteps := 1000000) (disch := first | omega | (simp only [LN]; omega)) only [go_sem]) <;> exact rfl
 case hs0_5 => refine wk_auto ?_; (simp -dsimp -implicitDefEqProofs (maxSteps := 1000000) (disch := first | omega | (simp only [LN]; omega)) only [go_sem]) <;> (try omega)
 case h0_5 => exact Nat.zero_le _
 case round_5 =>
  intro i h1
  by_cases h3 : i < l.length
  ·have g := hk _ (getD_in h3)
   have e1 : IntKind.i64.wrap (l.getD i default).k = (l.getD i default).k := by rw [IntKind.wrap_i64]; omega
   repeat' (first
    | (with_reducible first | refine r_seq ?_ | refine r_block ?_ | refine fork_not ?_ | refine fork_and ?_ | refine fork_or ?_ | refine chk_ok (by kernel_rfl) ?_)
    | ((with_reducible first | refine fork_dec ?_ ?_ | refine fork_eq ?_ ?_ | refine fork_ne ?_ ?_ | refine fork_intro ?_ ?_) <;> intro h <;> try (exfalso; first | omega | exact h rfl | (revert h; decide) | (cases h; done)))
    | ((with_reducible show False); omega)
    | ((first | (with_reducible first | refine r_exit ?_ | refine r_skip ?_ | refine r_cond ?_ | refine r_region ?_ | refine r_ret ?_ | show VX _ _ _ _ _ _ _ | show vstep _ _ _ _ _ | show vskip _ _ _ | show withV _ _) | ((with_reducible show endA _ _ _ _ _ _ _); simp -implicitDefEqProofs only [endA]) | (with_reducible first | refine pick_viewG default (by first | omega | (simp only [LN, e1]; omega)) (by first | omega | (simp only [LN, e1]; omega)) ?_ | refine pick_own default (by first | omega | (simp only [LN, e1]; omega)) ?_ | refine And.intro (by first | decide | omega | assumption | (simp only [LN, e1]; omega)) ?_) | ((with_reducible show pickE _ _ _); first | refine pickE_intro _ ⟨by omega, by rfl⟩ ?_ | refine pickE_intro _ (by rfl) ?_) | fail); try simp -dsimp -implicitDefEqProofs (maxSteps := 1000000) (disch := first | omega | (simp only [LN, e1]; omega)) only [go_sem, e1])
    | fail)
   all_goals first | omega | (refine loopQ_next (i + 1) ?_ ?_ ?_; (omega); (show _ < _; omega); (simp -dsimp -implicitDefEqProofs (maxSteps := 1000000) (disch := first | omega | (simp only [LN]; omega)) only [go_sem]; try trivial)) | (exfalso; first | omega | (simp at *; done))
  ·obtain rfl : i = l.length := by omega
   repeat' (first
    | (with_reducible first | refine r_seq ?_ | refine r_block ?_ | refine fork_not ?_ | refine fork_and ?_ | refine fork_or ?_ | refine chk_ok (by kernel_rfl) ?_)
    | ((with_reducible first | refine fork_dec ?_ ?_ | refine fork_eq ?_ ?_ | refine fork_ne ?_ ?_ | refine fork_intro ?_ ?_) <;> intro h <;> try (exfalso; first | omega | exact h rfl | (revert h; decide) | (cases h; done)))
    | ((with_reducible show False); omega)
    | ((first | (with_reducible first | refine r_exit ?_ | refine r_skip ?_ | refine r_cond ?_ | refine r_region ?_ | refine r_ret ?_ | show VX _ _ _ _ _ _ _ | show vstep _ _ _ _ _ | show vskip _ _ _ | show withV _ _) | ((with_reducible show endA _ _ _ _ _ _ _); simp -implicitDefEqProofs only [endA]) | (with_reducible first | refine pick_viewG default (by first | omega | (simp only [LN]; omega)) (by first | omega | (simp only [LN]; omega)) ?_ | refine pick_own default (by first | omega | (simp only [LN]; omega)) ?_ | refine And.intro (by first | decide | omega | assumption | (simp only [LN]; omega)) ?_) | ((with_reducible show pickE _ _ _); first | refine pickE_intro _ ⟨by omega, by rfl⟩ ?_ | refine pickE_intro _ (by rfl) ?_) | fail); try simp -dsimp -implicitDefEqProofs (maxSteps := 1000000) (disch := first | omega | (simp only [LN]; omega)) only [go_sem])
    | fail)
   all_goals first | omega | rfl
end Go.Proofs.YtckhjklcfagkoaaGreatDoor