/- Contracts of functions of this program, and the plain facts that they rest on. No conditions. -/
import Derived.Test.YtpcjeaaplidmaaaGreatDoorLinVQ
set_option linter.unusedSimpArgs false
set_option linter.unusedVariables false
namespace Go.Proofs.YtpcjeaaplidmaaaGreatDoor
open Go Go.Ab
attribute [local irreducible] callK callF loopQ vstep vskip pickE hideP
open Go.RowKit
set_option maxRecDepth 100000
attribute [local go_sem] Hi.rC Hi.hW Hi.hX eI eB eQ
theorem pop_take {s : LP} {i : Nat} (h : i + 1 < s.length) : Sp.enumI 0 (((s.drop 1).take (i + 1)).map Prod.snd) = Sp.enumI 0 (((s.drop 1).take i).map Prod.snd) ++ [((i : Int), ((s.drop 1).getD i default).2)] := by
 have hl : ((s.drop 1).map Prod.snd).length = s.length - 1 := by rw [List.length_map, List.length_drop]
 rw [List.map_take, List.map_take, Sp.enum_take (by omega)]
 congr 2
 rw [List.getD_eq_getElem?_getD, List.getElem?_map, List.getD_eq_getElem?_getD, List.getElem?_drop, Nat.add_comm 1 i, List.getElem?_eq_getElem h]; rfl
theorem pop_end (s : LP) : rpop s = Sp.enumI 0 (((s.drop 1).take (s.length - 1)).map Prod.snd) := by
 unfold rpop; rw [List.take_of_length_le]; rw [List.length_drop]; exact Nat.le_refl _
theorem pop_len {s : LP} {i : Nat} (h : i + 1 ≤ s.length) : (Sp.enumI 0 (((s.drop 1).take i).map Prod.snd)).length = i := by
 rw [Sp.enumI_length, List.length_map, List.length_take, List.length_drop]; omega
theorem enum_nil : Sp.enumI 0 [] = [] := rfl
set_option maxRecDepth 100000 in
set_option maxHeartbeats 4000000 in
theorem r44a (k : Int) (s : LP) (o : Sp.O) (hs : s.length ≤ 10000) (hk : k = 1 ∨ k = 4) : PCalls Tryz.prog 44 [.v (.int .i64 k), .view 2 (s.map Sp.eP), eQ o] (.tup [.view 2 ((rapp k s o).1.map Sp.eP), Sp.eR (rapp k s o).2]) := by
 refine pcalls_facts ⟨_, rfl, rfl, by decide⟩ fun hf => ?_
 simp only [go_sem, big] at hf
 refine pcalls_of (E := E) (fn := Tryz.f44) 151 [.tmp 6, .cell 7 69] rfl rfl rfl rfl (by decide) rfl ?_
 have hkr : keyR k o = 0 := if_pos hk
 obtain ⟨R, hR⟩ : ∃ R, rapp k s o = R := ⟨_, rfl⟩
 rw [hR]
 unfold rapp at hR
 simp only [hkr] at hR
 have k61 := r61 s 0
 have hpe := pop_end s
 generalize fget s 0 = v at *
 generalize fhas s 0 = is at *
 generalize rpop s = P at *
 repeat' (first
  | (with_reducible first | refine r_seq ?_ | refine r_block ?_ | refine fork_not ?_ | refine fork_and ?_ | refine fork_or ?_ | refine chk_ok (by kernel_rfl) ?_)
  | ((with_reducible first | refine fork_dec ?_ ?_ | refine fork_eq ?_ ?_ | refine fork_ne ?_ ?_ | refine fork_intro ?_ ?_) <;> intro h <;> try (exfalso; first | omega | exact h rfl | (revert h; decide) | (cases h; done)))
  | ((with_reducible show False); omega)
  | ((first | (with_reducible first | refine r_exit ?_ | refine r_skip ?_ | refine r_cond ?_ | refine r_region ?_ | refine r_ret ?_ | show VX _ _ _ _ _ _ _ | show vstep _ _ _ _ _ | show vskip _ _ _ | show withV _ _) | ((with_reducible show endA _ _ _ _ _ _ _); simp -implicitDefEqProofs only [endA]) | (with_reducible first | refine pick_viewG default (by first | omega | (simp only [LN, wrap_u64]; omega)) (by first | omega | (simp only [LN, wrap_u64]; omega)) ?_ | refine pick_own default (by first | omega | (simp only [LN, wrap_u64]; omega)) ?_ | refine And.intro (by first | decide | omega | assumption | (simp only [LN, wrap_u64]; omega)) ?_) | ((with_reducible apply callK_pure); (first | exact k61 | exact r62 _ | exact r64 _ _ | exact r63 s _ _ (by omega) | exact r65 s _ (by omega) | fail)) | ((with_reducible apply callF_lend); (first | exact k61 | exact r62 _ | exact r64 _ _ | exact r63 s _ _ (by omega) | exact r65 s _ (by omega) | fail); rfl) | ((with_reducible apply callF_go); (first | exact k61 | exact r62 _ | exact r64 _ _ | exact r63 s _ _ (by omega) | exact r65 s _ (by omega) | fail)) | ((with_reducible show pickE _ _ _); first | refine pickE_intro _ ⟨by omega, by rfl⟩ ?_ | refine pickE_intro _ (by rfl) ?_) | fail); try simp -dsimp -implicitDefEqProofs (maxSteps := 1000000) (disch := first | omega | (simp only [LN, wrap_u64]; omega)) only [go_sem, wrap_u64])
  | fail)
 all_goals first | (with_reducible show awp _ _ _ _ _) | (with_reducible show loopQ _ _ _ _ _ _ _ _) | (subst hR; clear k61; cases is <;> simp_all [Sp.eP]; done)
 all_goals
  refine r_loopA (α := Nat) [1, 7, 129, 130] (fun i b => [(11, .sl b 2 0 i), (131, aI i)]) (fun i b => []) (fun i => [.arr 2 ((Sp.enumI 0 (((s.drop 1).take i).map Prod.snd)).map Sp.eP)]) (fun i => i + 1 ≤ s.length) (fun i => s.length - i) (0) ?h0_1 ?hs0_1 ?I_1 ?hI_1 ?round_1
  case hI_1 => intro x; (simp -dsimp -implicitDefEqProofs (maxSteps := 1000000) (disch := first | omega | (simp only [LN]; omega)) only [go_sem]) <;> exact rfl
  case hs0_1 => refine wk_auto ?_; (simp -dsimp -implicitDefEqProofs (maxSteps := 1000000) (disch := first | omega | (simp only [LN, List.take_zero, enum_nil]; omega)) only [go_sem, List.take_zero, enum_nil]) <;> (try omega)
  case h0_1 => omega
  case round_1 =>
   intro i hi
   have hl := pop_len hi
   by_cases hi2 : i + 1 < s.length
   ·have e := pop_take hi2
    repeat' (first
     | (with_reducible first | refine r_seq ?_ | refine r_block ?_ | refine fork_not ?_ | refine fork_and ?_ | refine fork_or ?_ | refine chk_ok (by kernel_rfl) ?_)
     | ((with_reducible first | refine fork_dec ?_ ?_ | refine fork_eq ?_ ?_ | refine fork_ne ?_ ?_ | refine fork_intro ?_ ?_) <;> intro h <;> try (exfalso; first | omega | exact h rfl | (revert h; decide) | (cases h; done)))
     | ((with_reducible show False); omega)
     | ((first | (with_reducible first | refine r_exit ?_ | refine r_skip ?_ | refine r_cond ?_ | refine r_region ?_ | refine r_ret ?_ | show VX _ _ _ _ _ _ _ | show vstep _ _ _ _ _ | show vskip _ _ _ | show withV _ _) | ((with_reducible show endA _ _ _ _ _ _ _); simp -implicitDefEqProofs only [endA]) | (with_reducible first | refine pick_viewG default (by first | omega | (simp only [LN, hl, wrap_u64]; omega)) (by first | omega | (simp only [LN, hl, wrap_u64]; omega)) ?_ | refine pick_own default (by first | omega | (simp only [LN, hl, wrap_u64]; omega)) ?_ | refine And.intro (by first | decide | omega | assumption | (simp only [LN, hl, wrap_u64]; omega)) ?_) | ((with_reducible show pickE _ _ _); first | refine pickE_intro _ ⟨by omega, by rfl⟩ ?_ | refine pickE_intro _ (by rfl) ?_) | fail); try simp -dsimp -implicitDefEqProofs (maxSteps := 1000000) (disch := first | omega | (simp only [LN, hl, wrap_u64]; omega)) only [go_sem, hl, wrap_u64])
     | fail)
    all_goals first | omega | (refine loopQ_next (i + 1) ?_ ?_ ?_; (omega); (show _ < _; omega); (simp -dsimp -implicitDefEqProofs (maxSteps := 1000000) (disch := first | omega | (simp only [LN, e, hl, List.map_append]; omega)) only [go_sem, e, hl, List.map_append]; try trivial))
   ·have e : s.length - 1 = i := by omega
    rw [if_neg (by assumption), if_neg (by assumption), if_neg (by assumption), if_neg (by assumption), if_neg (by assumption), if_neg (by assumption), if_neg (by assumption), if_neg (by assumption), if_neg (by omega)] at hR
    rw [e] at hpe
    subst hpe
    subst hR
    have hfull : (Sp.enumI 0 ((s.drop 1).map Prod.snd)).length = i := by rw [Sp.enumI_length, List.length_map, List.length_drop]; exact e
    repeat' (first
     | (with_reducible first | refine r_seq ?_ | refine r_block ?_ | refine fork_not ?_ | refine fork_and ?_ | refine fork_or ?_ | refine chk_ok (by kernel_rfl) ?_)
     | ((with_reducible first | refine fork_dec ?_ ?_ | refine fork_eq ?_ ?_ | refine fork_ne ?_ ?_ | refine fork_intro ?_ ?_) <;> intro h <;> try (exfalso; first | omega | exact h rfl | (revert h; decide) | (cases h; done)))
     | ((with_reducible show False); omega)
     | ((first | (with_reducible first | refine r_exit ?_ | refine r_skip ?_ | refine r_cond ?_ | refine r_region ?_ | refine r_ret ?_ | show VX _ _ _ _ _ _ _ | show vstep _ _ _ _ _ | show vskip _ _ _ | show withV _ _) | ((with_reducible show endA _ _ _ _ _ _ _); simp -implicitDefEqProofs only [endA]) | (with_reducible first | refine pick_viewG default (by first | omega | (simp only [LN, hl]; omega)) (by first | omega | (simp only [LN, hl]; omega)) ?_ | refine pick_own default (by first | omega | (simp only [LN, hl]; omega)) ?_ | refine And.intro (by first | decide | omega | assumption | (simp only [LN, hl]; omega)) ?_) | ((with_reducible apply callK_pure); (exact r62 _)) | ((with_reducible apply callF_lend); (exact r62 _); rfl) | ((with_reducible apply callF_go); (exact r62 _)) | ((with_reducible show pickE _ _ _); first | refine pickE_intro _ ⟨by omega, by rfl⟩ ?_ | refine pickE_intro _ (by rfl) ?_) | fail); try simp -dsimp -implicitDefEqProofs (maxSteps := 1000000) (disch := first | omega | (simp only [LN, hl]; omega)) only [go_sem, hl])
     | fail)
    all_goals first | rfl | omega | (exact ⟨by omega, by rw [List.take_of_length_le (by omega)]⟩)
set_option maxRecDepth 100000 in
set_option maxHeartbeats 4000000 in
theorem r44b (k : Int) (s : LP) (o : Sp.O) (hs : s.length ≤ 10000) (hk : ¬ (k = 1 ∨ k = 4)) : PCalls Tryz.prog 44 [.v (.int .i64 k), .view 2 (s.map Sp.eP), eQ o] (.tup [.view 2 ((rapp k s o).1.map Sp.eP), Sp.eR (rapp k s o).2]) := by
 refine pcalls_facts ⟨_, rfl, rfl, by decide⟩ fun hf => ?_
 simp only [go_sem, big] at hf
 refine pcalls_of (E := E) (fn := Tryz.f44) 151 [.tmp 6, .cell 7 69] rfl rfl rfl rfl (by decide) rfl ?_
 have hkr : keyR k o = o.key := if_neg hk
 obtain ⟨R, hR⟩ : ∃ R, rapp k s o = R := ⟨_, rfl⟩
 rw [hR]
 unfold rapp at hR
 simp only [hkr] at hR
 have k61 := r61 s o.key
 have hpe := pop_end s
 generalize fget s o.key = v at *
 generalize fhas s o.key = is at *
 generalize rpop s = P at *
 repeat' (first
  | (with_reducible first | refine r_seq ?_ | refine r_block ?_ | refine fork_not ?_ | refine fork_and ?_ | refine fork_or ?_ | refine chk_ok (by kernel_rfl) ?_)
  | ((with_reducible first | refine fork_dec ?_ ?_ | refine fork_eq ?_ ?_ | refine fork_ne ?_ ?_ | refine fork_intro ?_ ?_) <;> intro h <;> try (exfalso; first | omega | exact h rfl | (revert h; decide) | (cases h; done)))
  | ((with_reducible show False); omega)
  | ((first | (with_reducible first | refine r_exit ?_ | refine r_skip ?_ | refine r_cond ?_ | refine r_region ?_ | refine r_ret ?_ | show VX _ _ _ _ _ _ _ | show vstep _ _ _ _ _ | show vskip _ _ _ | show withV _ _) | ((with_reducible show endA _ _ _ _ _ _ _); simp -implicitDefEqProofs only [endA]) | (with_reducible first | refine pick_viewG default (by first | omega | (simp only [LN, wrap_u64]; omega)) (by first | omega | (simp only [LN, wrap_u64]; omega)) ?_ | refine pick_own default (by first | omega | (simp only [LN, wrap_u64]; omega)) ?_ | refine And.intro (by first | decide | omega | assumption | (simp only [LN, wrap_u64]; omega)) ?_) | ((with_reducible apply callK_pure); (first | exact k61 | exact r62 _ | exact r64 _ _ | exact r63 s _ _ (by omega) | exact r65 s _ (by omega) | fail)) | ((with_reducible apply callF_lend); (first | exact k61 | exact r62 _ | exact r64 _ _ | exact r63 s _ _ (by omega) | exact r65 s _ (by omega) | fail); rfl) | ((with_reducible apply callF_go); (first | exact k61 | exact r62 _ | exact r64 _ _ | exact r63 s _ _ (by omega) | exact r65 s _ (by omega) | fail)) | ((with_reducible show pickE _ _ _); first | refine pickE_intro _ ⟨by omega, by rfl⟩ ?_ | refine pickE_intro _ (by rfl) ?_) | fail); try simp -dsimp -implicitDefEqProofs (maxSteps := 1000000) (disch := first | omega | (simp only [LN, wrap_u64]; omega)) only [go_sem, wrap_u64])
  | fail)
 all_goals first | (with_reducible show awp _ _ _ _ _) | (with_reducible show loopQ _ _ _ _ _ _ _ _) | (subst hR; clear k61; cases is <;> simp_all [Sp.eP]; done)
 all_goals
  refine r_loopA (α := Nat) [1, 7, 129, 130] (fun i b => [(11, .sl b 2 0 i), (131, aI i)]) (fun i b => []) (fun i => [.arr 2 ((Sp.enumI 0 (((s.drop 1).take i).map Prod.snd)).map Sp.eP)]) (fun i => i + 1 ≤ s.length) (fun i => s.length - i) (0) ?h0_2 ?hs0_2 ?I_2 ?hI_2 ?round_2
  case hI_2 => intro x; (simp -dsimp -implicitDefEqProofs (maxSteps := 1000000) (disch := first | omega | (simp only [LN]; omega)) only [go_sem]) <;> exact rfl
  case hs0_2 => refine wk_auto ?_; (simp -dsimp -implicitDefEqProofs (maxSteps := 1000000) (disch := first | omega | (simp only [LN, List.take_zero, enum_nil]; omega)) only [go_sem, List.take_zero, enum_nil]) <;> (try omega)
  case h0_2 => omega
  case round_2 =>
   intro i hi
   have hl := pop_len hi
   by_cases hi2 : i + 1 < s.length
   ·have e := pop_take hi2
    repeat' (first
     | (with_reducible first | refine r_seq ?_ | refine r_block ?_ | refine fork_not ?_ | refine fork_and ?_ | refine fork_or ?_ | refine chk_ok (by kernel_rfl) ?_)
     | ((with_reducible first | refine fork_dec ?_ ?_ | refine fork_eq ?_ ?_ | refine fork_ne ?_ ?_ | refine fork_intro ?_ ?_) <;> intro h <;> try (exfalso; first | omega | exact h rfl | (revert h; decide) | (cases h; done)))
     | ((with_reducible show False); omega)
     | ((first | (with_reducible first | refine r_exit ?_ | refine r_skip ?_ | refine r_cond ?_ | refine r_region ?_ | refine r_ret ?_ | show VX _ _ _ _ _ _ _ | show vstep _ _ _ _ _ | show vskip _ _ _ | show withV _ _) | ((with_reducible show endA _ _ _ _ _ _ _); simp -implicitDefEqProofs only [endA]) | (with_reducible first | refine pick_viewG default (by first | omega | (simp only [LN, hl, wrap_u64]; omega)) (by first | omega | (simp only [LN, hl, wrap_u64]; omega)) ?_ | refine pick_own default (by first | omega | (simp only [LN, hl, wrap_u64]; omega)) ?_ | refine And.intro (by first | decide | omega | assumption | (simp only [LN, hl, wrap_u64]; omega)) ?_) | ((with_reducible show pickE _ _ _); first | refine pickE_intro _ ⟨by omega, by rfl⟩ ?_ | refine pickE_intro _ (by rfl) ?_) | fail); try simp -dsimp -implicitDefEqProofs (maxSteps := 1000000) (disch := first | omega | (simp only [LN, hl, wrap_u64]; omega)) only [go_sem, hl, wrap_u64])
     | fail)
    all_goals first | omega | (refine loopQ_next (i + 1) ?_ ?_ ?_; (omega); (show _ < _; omega); (simp -dsimp -implicitDefEqProofs (maxSteps := 1000000) (disch := first | omega | (simp only [LN, e, hl, List.map_append]; omega)) only [go_sem, e, hl, List.map_append]; try trivial))
   ·have e : s.length - 1 = i := by omega
    rw [if_neg (by assumption), if_neg (by assumption), if_neg (by assumption), if_neg (by assumption), if_neg (by assumption), if_neg (by assumption), if_neg (by assumption), if_neg (by assumption), if_neg (by omega)] at hR
    rw [e] at hpe
    subst hpe
    subst hR
    have hfull : (Sp.enumI 0 ((s.drop 1).map Prod.snd)).length = i := by rw [Sp.enumI_length, List.length_map, List.length_drop]; exact e
    repeat' (first
     | (with_reducible first | refine r_seq ?_ | refine r_block ?_ | refine fork_not ?_ | refine fork_and ?_ | refine fork_or ?_ | refine chk_ok (by kernel_rfl) ?_)
     | ((with_reducible first | refine fork_dec ?_ ?_ | refine fork_eq ?_ ?_ | refine fork_ne ?_ ?_ | refine fork_intro ?_ ?_) <;> intro h <;> try (exfalso; first | omega | exact h rfl | (revert h; decide) | (cases h; done)))
     | ((with_reducible show False); omega)
     | ((first | (with_reducible first | refine r_exit ?_ | refine r_skip ?_ | refine r_cond ?_ | refine r_region ?_ | refine r_ret ?_ | show VX _ _ _ _ _ _ _ | show vstep _ _ _ _ _ | show vskip _ _ _ | show withV _ _) | ((with_reducible show endA _ _ _ _ _ _ _); simp -implicitDefEqProofs only [endA]) | (with_reducible first | refine pick_viewG default (by first | omega | (simp only [LN, hl]; omega)) (by first | omega | (simp only [LN, hl]; omega)) ?_ | refine pick_own default (by first | omega | (simp only [LN, hl]; omega)) ?_ | refine And.intro (by first | decide | omega | assumption | (simp only [LN, hl]; omega)) ?_) | ((with_reducible apply callK_pure); (exact r62 _)) | ((with_reducible apply callF_lend); (exact r62 _); rfl) | ((with_reducible apply callF_go); (exact r62 _)) | ((with_reducible show pickE _ _ _); first | refine pickE_intro _ ⟨by omega, by rfl⟩ ?_ | refine pickE_intro _ (by rfl) ?_) | fail); try simp -dsimp -implicitDefEqProofs (maxSteps := 1000000) (disch := first | omega | (simp only [LN, hl]; omega)) only [go_sem, hl])
     | fail)
    all_goals first | rfl | omega | (exact ⟨by omega, by rw [List.take_of_length_le (by omega)]⟩)
theorem r44 (k : Int) (s : LP) (o : Sp.O) (hs : s.length ≤ 10000) : PCalls Tryz.prog 44 [.v (.int .i64 k), .view 2 (s.map Sp.eP), eQ o] (.tup [.view 2 ((rapp k s o).1.map Sp.eP), Sp.eR (rapp k s o).2]) := by
 by_cases hk : k = 1 ∨ k = 4
 ·exact r44a k s o hs hk
 ·exact r44b k s o hs hk
end Go.Proofs.YtpcjeaaplidmaaaGreatDoor