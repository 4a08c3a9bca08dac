/- Contracts of functions of this program, and the plain facts that they rest on. No conditions. -/
import Derived.Test.YtpcjeaaplidmaaaGreatDoorLinV2Q
set_option linter.unusedSimpArgs false
set_option linter.unusedVariables false
namespace Go.Proofs.YtpcjeaaplidmaaaGreatDoor
open Go Go.Ab
attribute [local irreducible] callK callF loopQ vstep vskip pickE hideP
open Go.RowKit
set_option maxRecDepth 100000
attribute [local go_sem] Hi.rC Hi.hW Hi.hX eI eB eQ
set_option maxRecDepth 100000 in
set_option maxHeartbeats 4000000 in
theorem r43 (l : List Hi.C) (n e : Int) (a b : Int) : PCalls Tryz.prog 43 [Hi.hW l n e, .v (.int .i64 a), .v (.int .i64 b)] (.v (.bool (decide (Hi.befM l a b)))) := by
 refine pcalls_facts ⟨_, rfl, rfl, by decide⟩ fun hf => ?_
 simp only [go_sem, big] at hf
 refine pcalls_of (E := E) (fn := Tryz.f43) 56 [.tmp 6] rfl rfl rfl rfl (by decide) rfl ?_
 repeat' (first
  | (with_reducible first | refine r_seq ?_ | refine r_block ?_ | refine fork_not ?_ | refine fork_and ?_ | refine fork_or ?_ | refine chk_ok (by kernel_rfl) ?_)
  | ((with_reducible first | refine fork_dec ?_ ?_ | refine fork_eq ?_ ?_ | refine fork_ne ?_ ?_ | refine fork_intro ?_ ?_) <;> intro h)
  | ((with_reducible show False); omega)
  | ((first | (with_reducible first | refine r_exit ?_ | refine r_skip ?_ | refine r_cond ?_ | refine r_region ?_ | refine r_ret ?_ | show VX _ _ _ _ _ _ _ | show vstep _ _ _ _ _ | show vskip _ _ _ | show withV _ _) | ((with_reducible show endA _ _ _ _ _ _ _); simp -implicitDefEqProofs only [endA]) | (with_reducible first | refine pick_viewG default (by first | omega | (simp only [LN]; omega)) (by first | omega | (simp only [LN]; omega)) ?_ | refine pick_own default (by first | omega | (simp only [LN]; omega)) ?_ | refine And.intro (by first | decide | omega | assumption | (simp only [LN]; omega)) ?_) | ((with_reducible show pickE _ _ _); first | refine pickE_intro _ ⟨by omega, by rfl⟩ ?_ | refine pickE_intro _ (by rfl) ?_) | fail); try simp -dsimp -implicitDefEqProofs (maxSteps := 1000000) (disch := first | omega | (simp only [LN]; omega)) only [go_sem])
  | fail)
 all_goals first | rfl | (refine congrArg Value.bool (Eq.symm (decide_eq_true ?_)); (try simp only [Hi.befM]); omega) | (refine congrArg Value.bool (Eq.symm (decide_eq_false ?_)); (try simp only [Hi.befM]); omega) | (refine congrArg Value.bool (Bool.eq_iff_iff.2 ?_); constructor <;> intro hh <;> (try simp only [beq_iff_eq, decide_eq_true_eq] at hh ⊢) <;> (try simp only [Hi.befM] at hh ⊢) <;> omega)
attribute [local irreducible] usedL rsT
set_option maxRecDepth 100000 in
set_option maxHeartbeats 4000000 in
theorem r23 (k : Int) (l : List Hi.C) (n e : Int) (o : List Int) (fin : LP) (hk : Sp.newK k = k) (hops : OpsOk k l) (hl : l.length ≤ 1000) (ho : o.length ≤ 1000) : PCalls Tryz.prog 23 [.v (.int .i64 k), Hi.hW l n e, .view 1 (o.map eI), .view 2 (fin.map Sp.eP)] (.v (.int .i64 (refV k l o fin))) := by
 refine pcalls_facts ⟨_, rfl, rfl, by decide⟩ fun hf => ?_
 simp only [go_sem, big] at hf
 refine pcalls_of (E := E) (fn := Tryz.f23) 135 [.tmp 8] rfl rfl rfl rfl (by decide) rfl ?_
 obtain ⟨V, hV⟩ : ∃ V, refV k l o fin = V := ⟨_, rfl⟩
 rw [hV]
 unfold refV at hV
 have hV2 : ∀ i, i ≤ o.length → ¬ inR l.length o i → V = 2 := fun i hi hn => by
  rw [← hV, if_pos]; exact fun hh => hn fun j hj => hh j (by omega)
 repeat' (first
  | (with_reducible first | refine r_seq ?_ | refine r_block ?_ | refine fork_not ?_ | refine fork_and ?_ | refine fork_or ?_ | refine chk_ok (by kernel_rfl) ?_)
  | ((with_reducible first | refine fork_dec ?_ ?_ | refine fork_eq ?_ ?_ | refine fork_ne ?_ ?_ | refine fork_intro ?_ ?_) <;> intro h <;> try (exfalso; first | omega | exact h rfl | (revert h; decide) | (cases h; done)))
  | ((with_reducible show False); omega)
  | ((first | (with_reducible first | refine r_exit ?_ | refine r_skip ?_ | refine r_cond ?_ | refine r_region ?_ | refine r_ret ?_ | show VX _ _ _ _ _ _ _ | show vstep _ _ _ _ _ | show vskip _ _ _ | show withV _ _) | ((with_reducible show endA _ _ _ _ _ _ _); simp -implicitDefEqProofs only [endA]) | (with_reducible first | refine pick_viewG default (by first | omega | (simp only [LN]; omega)) (by first | omega | (simp only [LN]; omega)) ?_ | refine pick_own default (by first | omega | (simp only [LN]; omega)) ?_ | refine And.intro (by first | decide | omega | assumption | (simp only [LN]; omega)) ?_) | ((with_reducible show pickE _ _ _); first | refine pickE_intro _ ⟨by omega, by rfl⟩ ?_ | refine pickE_intro _ (by rfl) ?_) | fail); try simp -dsimp -implicitDefEqProofs (maxSteps := 1000000) (disch := first | omega | (simp only [LN]; omega)) only [go_sem])
  | fail)
 refine r_loopA (α := Nat) [0, 2, 3, 5, 9, 25, 26] (fun i b => [(27, aI i)]) (fun i b => [(9, .arr 1 ((usedL l.length o i).map eB))]) (fun i => []) (fun i => i ≤ o.length ∧ inR l.length o i) (fun i => o.length - i) (0) ?h0_1 ?hs0_1 ?I_1 ?hI_1 ?round_1
 case hI_1 => intro x; (simp -dsimp -implicitDefEqProofs (maxSteps := 1000000) (disch := first | omega | (simp only [LN]; omega)) only [go_sem]) <;> exact rfl
 case hs0_1 => refine wk_auto ?_; (simp -dsimp -implicitDefEqProofs (maxSteps := 1000000) (disch := first | omega | (simp only [LN, used_0 _ o]; omega)) only [go_sem, used_0 _ o]) <;> (try omega)
 case h0_1 => exact ⟨Nat.zero_le _, fun j hj => absurd hj (by omega)⟩
 case round_1 =>
  rintro i ⟨h1, h2⟩
  by_cases hi : i < o.length
  ·by_cases hn : inR l.length o (i + 1)
   ·have hn1 := (hn i (by omega)).1
    have hn2 := (hn i (by omega)).2
    obtain ⟨n, hnn⟩ := Int.eq_ofNat_of_zero_le hn1.1
    have hu : (usedL l.length o i).getD n default = false := by
     rw [used_get (by omega), decide_eq_false_iff_not, mem_take (by omega)]
     rintro ⟨m, hm, h3⟩
     exact hn2 m hm (by rw [h3, hnn])
    have hs := used_set (N := l.length) hi hnn
    repeat' (first
     | (with_reducible first | refine r_seq ?_ | refine r_block ?_ | refine fork_not ?_ | refine fork_and ?_ | refine fork_or ?_ | refine chk_ok (by kernel_rfl) ?_)
     | ((with_reducible first | refine fork_dec ?_ ?_ | refine fork_eq ?_ ?_ | refine fork_ne ?_ ?_ | refine fork_intro ?_ ?_) <;> intro h <;> try (exfalso; first | omega | exact h rfl | (revert h; decide) | (cases h; done)))
     | ((with_reducible show False); omega)
     | ((first | (with_reducible first | refine r_exit ?_ | refine r_skip ?_ | refine r_cond ?_ | refine r_region ?_ | refine r_ret ?_ | show VX _ _ _ _ _ _ _ | show vstep _ _ _ _ _ | show vskip _ _ _ | show withV _ _) | ((with_reducible show endA _ _ _ _ _ _ _); simp -implicitDefEqProofs only [endA]) | (with_reducible first | refine pick_viewG default (by first | omega | (simp only [LN, used_len, hnn, hu]; omega)) (by first | omega | (simp only [LN, used_len, hnn, hu]; omega)) ?_ | refine pick_own default (by first | omega | (simp only [LN, used_len, hnn, hu]; omega)) ?_ | refine And.intro (by first | decide | omega | assumption | (simp only [LN, used_len, hnn, hu]; omega)) ?_) | ((with_reducible show pickE _ _ _); first | refine pickE_intro _ ⟨by omega, by rfl⟩ ?_ | refine pickE_intro _ (by rfl) ?_) | fail); try simp -dsimp -implicitDefEqProofs (maxSteps := 1000000) (disch := first | omega | (simp only [LN, used_len, hnn, hu]; omega)) only [go_sem, used_len, hnn, hu])
     | fail)
    (refine loopQ_next (i + 1) ?_ ?_ ?_; (exact ⟨by omega, hn⟩); (show _ < _; omega); (simp -dsimp -implicitDefEqProofs (maxSteps := 1000000) (disch := first | omega | (simp only [LN, ← hs, List.map_set]; omega)) only [go_sem, ← hs, List.map_set]; try trivial))
   ·have hv := hV2 (i + 1) (by omega) hn
    have key : ∀ (g1 : ¬ o.getD i default < 0) (g2 : ¬ o.getD i default ≥ l.length) (g3 : (usedL l.length o i).getD (o.getD i default).toNat default = false), False := fun g1 g2 g3 => by
     refine hn fun j hj => ?_
     rcases Nat.lt_or_ge j i with h4 | h4
     ·exact h2 j h4
     ·obtain rfl : j = i := by omega
      refine ⟨by omega, fun m hm h5 => ?_⟩
      rw [used_get (by omega), decide_eq_false_iff_not, mem_take (by omega)] at g3
      exact g3 ⟨m, hm, by omega⟩
    repeat' (first
     | (with_reducible first | refine r_seq ?_ | refine r_block ?_ | refine fork_not ?_ | refine fork_and ?_ | refine fork_or ?_ | refine chk_ok (by kernel_rfl) ?_)
     | ((with_reducible first | refine fork_dec ?_ ?_ | refine fork_eq ?_ ?_ | refine fork_ne ?_ ?_ | refine fork_intro ?_ ?_) <;> intro h <;> try (exfalso; first | omega | exact h rfl | (revert h; decide) | (cases h; done)))
     | ((with_reducible show False); omega)
     | ((first | (with_reducible first | refine r_exit ?_ | refine r_skip ?_ | refine r_cond ?_ | refine r_region ?_ | refine r_ret ?_ | show VX _ _ _ _ _ _ _ | show vstep _ _ _ _ _ | show vskip _ _ _ | show withV _ _) | ((with_reducible show endA _ _ _ _ _ _ _); simp -implicitDefEqProofs only [endA]) | (with_reducible first | refine pick_viewG default (by first | omega | (simp only [LN, used_len]; omega)) (by first | omega | (simp only [LN, used_len]; omega)) ?_ | refine pick_own default (by first | omega | (simp only [LN, used_len]; omega)) ?_ | refine And.intro (by first | decide | omega | assumption | (simp only [LN, used_len]; omega)) ?_) | ((with_reducible show pickE _ _ _); first | refine pickE_intro _ ⟨by omega, by rfl⟩ ?_ | refine pickE_intro _ (by rfl) ?_) | fail); try simp -dsimp -implicitDefEqProofs (maxSteps := 1000000) (disch := first | omega | (simp only [LN, used_len]; omega)) only [go_sem, used_len])
     | fail)
    all_goals first
     | (rw [hv]; done)
     | (exfalso; refine key ?_ ?_ ?_ <;> assumption)
  ·obtain rfl : i = o.length := by omega
   have n1 : ¬ ¬ inR l.length o o.length := fun h => h h2
   rw [if_neg n1] at hV
   have hto : ∀ j, j < o.length → ∃ a : Nat, o.getD j default = (a : Int) ∧ a < l.length := fun j hj => by
    have := (h2 j (by omega)).1
    exact ⟨(o.getD j default).toNat, by omega, by omega⟩
   have hu : ∀ a, a < l.length → (usedL l.length o o.length).getD a default = decide ((a : Int) ∈ o) := fun a ha => by rw [used_get ha, List.take_length]
   repeat' (first
    | (with_reducible first | refine r_seq ?_ | refine r_block ?_ | refine fork_not ?_ | refine fork_and ?_ | refine fork_or ?_ | refine chk_ok (by kernel_rfl) ?_)
    | ((with_reducible first | refine fork_dec ?_ ?_ | refine fork_eq ?_ ?_ | refine fork_ne ?_ ?_ | refine fork_intro ?_ ?_) <;> intro h <;> try (exfalso; first | omega | exact h rfl | (revert h; decide) | (cases h; done)))
    | ((with_reducible show False); omega)
    | ((first | (with_reducible first | refine r_exit ?_ | refine r_skip ?_ | refine r_cond ?_ | refine r_region ?_ | refine r_ret ?_ | show VX _ _ _ _ _ _ _ | show vstep _ _ _ _ _ | show vskip _ _ _ | show withV _ _) | ((with_reducible show endA _ _ _ _ _ _ _); simp -implicitDefEqProofs only [endA]) | (with_reducible first | refine pick_viewG default (by first | omega | (simp only [LN]; omega)) (by first | omega | (simp only [LN]; omega)) ?_ | refine pick_own default (by first | omega | (simp only [LN]; omega)) ?_ | refine And.intro (by first | decide | omega | assumption | (simp only [LN]; omega)) ?_) | ((with_reducible show pickE _ _ _); first | refine pickE_intro _ ⟨by omega, by rfl⟩ ?_ | refine pickE_intro _ (by rfl) ?_) | fail); try simp -dsimp -implicitDefEqProofs (maxSteps := 1000000) (disch := first | omega | (simp only [LN]; omega)) only [go_sem])
    | fail)
   refine r_loopA (α := Nat) [0, 2, 3, 5, 9, 50, 51] (fun a b => [(52, aI a)]) (fun a b => []) (fun a => []) (fun a => a ≤ l.length ∧ allE l o a) (fun a => l.length - a) (0) ?h0_2 ?hs0_2 ?I_2 ?hI_2 ?round_2
   case hI_2 => intro x; (simp -dsimp -implicitDefEqProofs (maxSteps := 1000000) (disch := first | omega | (simp only [LN]; omega)) only [go_sem]) <;> exact rfl
   case hs0_2 => refine wk_auto ?_; (simp -dsimp -implicitDefEqProofs (maxSteps := 1000000) (disch := first | omega | (simp only [LN]; omega)) only [go_sem]) <;> (try omega)
   case h0_2 => exact ⟨Nat.zero_le _, fun j hj => absurd hj (by omega)⟩
   case round_2 =>
    rintro a ⟨a1, a2⟩
    by_cases ha : a < l.length
    ·have hua := hu a ha
     by_cases hn : 0 ≤ (l.getD a default).en → (a : Int) ∈ o
     ·have hn2 : allE l o (a + 1) := fun j hj => by
       rcases Nat.lt_or_ge j a with h4 | h4
       ·exact a2 j h4
       ·obtain rfl : j = a := by omega
        exact hn
      repeat' (first
       | (with_reducible first | refine r_seq ?_ | refine r_block ?_ | refine fork_not ?_ | refine fork_and ?_ | refine fork_or ?_ | refine chk_ok (by kernel_rfl) ?_)
       | ((with_reducible first | refine fork_dec ?_ ?_ | refine fork_eq ?_ ?_ | refine fork_ne ?_ ?_ | refine fork_intro ?_ ?_) <;> intro h <;> try (exfalso; first | omega | exact h rfl | (revert h; decide) | (cases h; done)))
       | ((with_reducible show False); omega)
       | ((first | (with_reducible first | refine r_exit ?_ | refine r_skip ?_ | refine r_cond ?_ | refine r_region ?_ | refine r_ret ?_ | show VX _ _ _ _ _ _ _ | show vstep _ _ _ _ _ | show vskip _ _ _ | show withV _ _) | ((with_reducible show endA _ _ _ _ _ _ _); simp -implicitDefEqProofs only [endA]) | (with_reducible first | refine pick_viewG default (by first | omega | (simp only [LN, used_len, hua]; omega)) (by first | omega | (simp only [LN, used_len, hua]; omega)) ?_ | refine pick_own default (by first | omega | (simp only [LN, used_len, hua]; omega)) ?_ | refine And.intro (by first | decide | omega | assumption | (simp only [LN, used_len, hua]; omega)) ?_) | ((with_reducible show pickE _ _ _); first | refine pickE_intro _ ⟨by omega, by rfl⟩ ?_ | refine pickE_intro _ (by rfl) ?_) | fail); try simp -dsimp -implicitDefEqProofs (maxSteps := 1000000) (disch := first | omega | (simp only [LN, used_len, hua]; omega)) only [go_sem, used_len, hua])
       | fail)
      all_goals first
       | (refine loopQ_next (a + 1) ?_ ?_ ?_; (exact ⟨by omega, hn2⟩); (show _ < _; omega); (simp -dsimp -implicitDefEqProofs (maxSteps := 1000000) (disch := first | omega | (simp only [LN]; omega)) only [go_sem]; try trivial))
       | (exfalso; have h9 := hn (by assumption); contradiction)
     ·have hv : V = 5 := by
       rw [← hV, if_pos]; exact fun hh => hn (hh a ha)
      repeat' (first
       | (with_reducible first | refine r_seq ?_ | refine r_block ?_ | refine fork_not ?_ | refine fork_and ?_ | refine fork_or ?_ | refine chk_ok (by kernel_rfl) ?_)
       | ((with_reducible first | refine fork_dec ?_ ?_ | refine fork_eq ?_ ?_ | refine fork_ne ?_ ?_ | refine fork_intro ?_ ?_) <;> intro h <;> try (exfalso; first | omega | exact h rfl | (revert h; decide) | (cases h; done)))
       | ((with_reducible show False); omega)
       | ((first | (with_reducible first | refine r_exit ?_ | refine r_skip ?_ | refine r_cond ?_ | refine r_region ?_ | refine r_ret ?_ | show VX _ _ _ _ _ _ _ | show vstep _ _ _ _ _ | show vskip _ _ _ | show withV _ _) | ((with_reducible show endA _ _ _ _ _ _ _); simp -implicitDefEqProofs only [endA]) | (with_reducible first | refine pick_viewG default (by first | omega | (simp only [LN, used_len, hua]; omega)) (by first | omega | (simp only [LN, used_len, hua]; omega)) ?_ | refine pick_own default (by first | omega | (simp only [LN, used_len, hua]; omega)) ?_ | refine And.intro (by first | decide | omega | assumption | (simp only [LN, used_len, hua]; omega)) ?_) | ((with_reducible show pickE _ _ _); first | refine pickE_intro _ ⟨by omega, by rfl⟩ ?_ | refine pickE_intro _ (by rfl) ?_) | fail); try simp -dsimp -implicitDefEqProofs (maxSteps := 1000000) (disch := first | omega | (simp only [LN, used_len, hua]; omega)) only [go_sem, used_len, hua])
       | fail)
      all_goals first
       | (rw [hv]; done)
       | (exfalso; exact hn fun _ => by assumption)
       | (exfalso; exact hn fun _ => by omega)
    ·obtain rfl : a = l.length := by omega
     have n2 : ¬ ¬ allE l o l.length := fun h => h a2
     rw [if_neg n2] at hV
     repeat' (first
      | (with_reducible first | refine r_seq ?_ | refine r_block ?_ | refine fork_not ?_ | refine fork_and ?_ | refine fork_or ?_ | refine chk_ok (by kernel_rfl) ?_)
      | ((with_reducible first | refine fork_dec ?_ ?_ | refine fork_eq ?_ ?_ | refine fork_ne ?_ ?_ | refine fork_intro ?_ ?_) <;> intro h <;> try (exfalso; first | omega | exact h rfl | (revert h; decide) | (cases h; done)))
      | ((with_reducible show False); omega)
      | ((first | (with_reducible first | refine r_exit ?_ | refine r_skip ?_ | refine r_cond ?_ | refine r_region ?_ | refine r_ret ?_ | show VX _ _ _ _ _ _ _ | show vstep _ _ _ _ _ | show vskip _ _ _ | show withV _ _) | ((with_reducible show endA _ _ _ _ _ _ _); simp -implicitDefEqProofs only [endA]) | (with_reducible first | refine pick_viewG default (by first | omega | (simp only [LN]; omega)) (by first | omega | (simp only [LN]; omega)) ?_ | refine pick_own default (by first | omega | (simp only [LN]; omega)) ?_ | refine And.intro (by first | decide | omega | assumption | (simp only [LN]; omega)) ?_) | ((with_reducible show pickE _ _ _); first | refine pickE_intro _ ⟨by omega, by rfl⟩ ?_ | refine pickE_intro _ (by rfl) ?_) | fail); try simp -dsimp -implicitDefEqProofs (maxSteps := 1000000) (disch := first | omega | (simp only [LN]; omega)) only [go_sem])
      | fail)
     refine r_loopA (α := Nat) [0, 2, 3, 5, 69] (fun a b => [(70, aI a)]) (fun a b => []) (fun a => []) (fun a => a ≤ o.length ∧ rtAll l o a) (fun a => o.length - a) (0) ?h0_3 ?hs0_3 ?I_3 ?hI_3 ?round_3
     case hI_3 => intro x; (simp -dsimp -implicitDefEqProofs (maxSteps := 1000000) (disch := first | omega | (simp only [LN]; omega)) only [go_sem]) <;> exact rfl
     case hs0_3 => refine wk_auto ?_; (simp -dsimp -implicitDefEqProofs (maxSteps := 1000000) (disch := first | omega | (simp only [LN]; omega)) only [go_sem]) <;> (try omega)
     case h0_3 => exact ⟨Nat.zero_le _, fun j hj => absurd hj (by omega)⟩
     case round_3 =>
      rintro a ⟨b1, b2⟩
      by_cases hi : a < o.length
      ·repeat' (first
        | (with_reducible first | refine r_seq ?_ | refine r_block ?_ | refine fork_not ?_ | refine fork_and ?_ | refine fork_or ?_ | refine chk_ok (by kernel_rfl) ?_)
        | ((with_reducible first | refine fork_dec ?_ ?_ | refine fork_eq ?_ ?_ | refine fork_ne ?_ ?_ | refine fork_intro ?_ ?_) <;> intro h <;> try (exfalso; first | omega | exact h rfl | (revert h; decide) | (cases h; done)))
        | ((with_reducible show False); omega)
        | ((first | (with_reducible first | refine r_exit ?_ | refine r_skip ?_ | refine r_cond ?_ | refine r_region ?_ | refine r_ret ?_ | show VX _ _ _ _ _ _ _ | show vstep _ _ _ _ _ | show vskip _ _ _ | show withV _ _) | ((with_reducible show endA _ _ _ _ _ _ _); simp -implicitDefEqProofs only [endA]) | (with_reducible first | refine pick_viewG default (by first | omega | (simp only [LN]; omega)) (by first | omega | (simp only [LN]; omega)) ?_ | refine pick_own default (by first | omega | (simp only [LN]; omega)) ?_ | refine And.intro (by first | decide | omega | assumption | (simp only [LN]; omega)) ?_) | ((with_reducible show pickE _ _ _); first | refine pickE_intro _ ⟨by omega, by rfl⟩ ?_ | refine pickE_intro _ (by rfl) ?_) | fail); try simp -dsimp -implicitDefEqProofs (maxSteps := 1000000) (disch := first | omega | (simp only [LN]; omega)) only [go_sem])
        | fail)
       refine r_loopA (α := Nat) [0, 2, 3, 5, 14, 69, 70] (fun c b => [(15, aI c)]) (fun c b => []) (fun c => []) (fun c => a < c ∧ c ≤ o.length ∧ rtQ l o a c) (fun c => o.length - c) ((a + 1)) ?h0_4 ?hs0_4 ?I_4 ?hI_4 ?round_4
       case hI_4 => intro x; (simp -dsimp -implicitDefEqProofs (maxSteps := 1000000) (disch := first | omega | (simp only [LN]; omega)) only [go_sem]) <;> exact rfl
       case hs0_4 => refine wk_auto ?_; (simp -dsimp -implicitDefEqProofs (maxSteps := 1000000) (disch := first | omega | (simp only [LN]; omega)) only [go_sem]) <;> (try omega)
       case h0_4 => exact ⟨by omega, by omega, fun j hj hj2 => absurd hj2 (by omega)⟩
       case round_4 =>
        rintro c ⟨c1, c2, c3⟩
        by_cases hc : c < o.length
        ·have k43 := r43 l n e (o.getD c default) (o.getD a default)
         by_cases hb : Hi.befM l (o.getD c default) (o.getD a default)
         ·have hv : V = 8 := by
           rw [← hV, if_pos]; exact fun hh => hh a hi c c1 hc hb
          rw [decide_eq_true hb] at k43
          repeat' (first
           | (with_reducible first | refine r_seq ?_ | refine r_block ?_ | refine fork_not ?_ | refine fork_and ?_ | refine fork_or ?_ | refine chk_ok (by kernel_rfl) ?_)
           | ((with_reducible first | refine fork_dec ?_ ?_ | refine fork_eq ?_ ?_ | refine fork_ne ?_ ?_ | refine fork_intro ?_ ?_) <;> intro h <;> try (exfalso; first | omega | exact h rfl | (revert h; decide) | (cases h; done)))
           | ((with_reducible show False); omega)
           | ((first | (with_reducible first | refine r_exit ?_ | refine r_skip ?_ | refine r_cond ?_ | refine r_region ?_ | refine r_ret ?_ | show VX _ _ _ _ _ _ _ | show vstep _ _ _ _ _ | show vskip _ _ _ | show withV _ _) | ((with_reducible show endA _ _ _ _ _ _ _); simp -implicitDefEqProofs only [endA]) | (with_reducible first | refine pick_viewG default (by first | omega | (simp only [LN]; omega)) (by first | omega | (simp only [LN]; omega)) ?_ | refine pick_own default (by first | omega | (simp only [LN]; omega)) ?_ | refine And.intro (by first | decide | omega | assumption | (simp only [LN]; omega)) ?_) | ((with_reducible apply callK_pure); (exact k43)) | ((with_reducible apply callF_lend); (exact k43); rfl) | ((with_reducible apply callF_go); (exact k43)) | ((with_reducible show pickE _ _ _); first | refine pickE_intro _ ⟨by omega, by rfl⟩ ?_ | refine pickE_intro _ (by rfl) ?_) | fail); try simp -dsimp -implicitDefEqProofs (maxSteps := 1000000) (disch := first | omega | (simp only [LN]; omega)) only [go_sem])
           | fail)
          all_goals first | (rw [hv]; done) | omega
         ·have hn2 : rtQ l o a (c + 1) := fun j hj hj2 => by
           rcases Nat.lt_or_ge j c with h4 | h4
           ·exact c3 j hj h4
           ·obtain rfl : j = c := by omega
            exact hb
          rw [decide_eq_false hb] at k43
          repeat' (first
           | (with_reducible first | refine r_seq ?_ | refine r_block ?_ | refine fork_not ?_ | refine fork_and ?_ | refine fork_or ?_ | refine chk_ok (by kernel_rfl) ?_)
           | ((with_reducible first | refine fork_dec ?_ ?_ | refine fork_eq ?_ ?_ | refine fork_ne ?_ ?_ | refine fork_intro ?_ ?_) <;> intro h <;> try (exfalso; first | omega | exact h rfl | (revert h; decide) | (cases h; done)))
           | ((with_reducible show False); omega)
           | ((first | (with_reducible first | refine r_exit ?_ | refine r_skip ?_ | refine r_cond ?_ | refine r_region ?_ | refine r_ret ?_ | show VX _ _ _ _ _ _ _ | show vstep _ _ _ _ _ | show vskip _ _ _ | show withV _ _) | ((with_reducible show endA _ _ _ _ _ _ _); simp -implicitDefEqProofs only [endA]) | (with_reducible first | refine pick_viewG default (by first | omega | (simp only [LN]; omega)) (by first | omega | (simp only [LN]; omega)) ?_ | refine pick_own default (by first | omega | (simp only [LN]; omega)) ?_ | refine And.intro (by first | decide | omega | assumption | (simp only [LN]; omega)) ?_) | ((with_reducible apply callK_pure); (exact k43)) | ((with_reducible apply callF_lend); (exact k43); rfl) | ((with_reducible apply callF_go); (exact k43)) | ((with_reducible show pickE _ _ _); first | refine pickE_intro _ ⟨by omega, by rfl⟩ ?_ | refine pickE_intro _ (by rfl) ?_) | fail); try simp -dsimp -implicitDefEqProofs (maxSteps := 1000000) (disch := first | omega | (simp only [LN]; omega)) only [go_sem])
           | fail)
          all_goals first | omega | (refine loopQ_next (c + 1) ?_ ?_ ?_; (exact ⟨by omega, by omega, hn2⟩); (show _ < _; omega); (simp -dsimp -implicitDefEqProofs (maxSteps := 1000000) (disch := first | omega | (simp only [LN]; omega)) only [go_sem]; try trivial))
        ·obtain rfl : c = o.length := by omega
         have hn2 : rtAll l o (a + 1) := fun j hj => by
          rcases Nat.lt_or_ge j a with h4 | h4
          ·exact b2 j h4
          ·obtain rfl : j = a := by omega
           exact c3
         repeat' (first
          | (with_reducible first | refine r_seq ?_ | refine r_block ?_ | refine fork_not ?_ | refine fork_and ?_ | refine fork_or ?_ | refine chk_ok (by kernel_rfl) ?_)
          | ((with_reducible first | refine fork_dec ?_ ?_ | refine fork_eq ?_ ?_ | refine fork_ne ?_ ?_ | refine fork_intro ?_ ?_) <;> intro h <;> try (exfalso; first | omega | exact h rfl | (revert h; decide) | (cases h; done)))
          | ((with_reducible show False); omega)
          | ((first | (with_reducible first | refine r_exit ?_ | refine r_skip ?_ | refine r_cond ?_ | refine r_region ?_ | refine r_ret ?_ | show VX _ _ _ _ _ _ _ | show vstep _ _ _ _ _ | show vskip _ _ _ | show withV _ _) | ((with_reducible show endA _ _ _ _ _ _ _); simp -implicitDefEqProofs only [endA]) | (with_reducible first | refine pick_viewG default (by first | omega | (simp only [LN]; omega)) (by first | omega | (simp only [LN]; omega)) ?_ | refine pick_own default (by first | omega | (simp only [LN]; omega)) ?_ | refine And.intro (by first | decide | omega | assumption | (simp only [LN]; omega)) ?_) | ((with_reducible show pickE _ _ _); first | refine pickE_intro _ ⟨by omega, by rfl⟩ ?_ | refine pickE_intro _ (by rfl) ?_) | fail); try simp -dsimp -implicitDefEqProofs (maxSteps := 1000000) (disch := first | omega | (simp only [LN]; omega)) only [go_sem])
          | fail)
         all_goals first | omega | (refine loopQ_next (a + 1) ?_ ?_ ?_; (exact ⟨by omega, hn2⟩); (show _ < _; omega); (simp -dsimp -implicitDefEqProofs (maxSteps := 1000000) (disch := first | omega | (simp only [LN]; omega)) only [go_sem]; try trivial))
      ·obtain rfl : a = o.length := by omega
       have n3 : ¬ ¬ rtAll l o o.length := fun h => h b2
       rw [if_neg n3] at hV
       have k29 := r29 k hk
       have hrs := rs_st hk hops h2
       repeat' (first
        | (with_reducible first | refine r_seq ?_ | refine r_block ?_ | refine fork_not ?_ | refine fork_and ?_ | refine fork_or ?_ | refine chk_ok (by kernel_rfl) ?_)
        | ((with_reducible first | refine fork_dec ?_ ?_ | refine fork_eq ?_ ?_ | refine fork_ne ?_ ?_ | refine fork_intro ?_ ?_) <;> intro h <;> try (exfalso; first | omega | exact h rfl | (revert h; decide) | (cases h; done)))
        | ((with_reducible show False); omega)
        | ((first | (with_reducible first | refine r_exit ?_ | refine r_skip ?_ | refine r_cond ?_ | refine r_region ?_ | refine r_ret ?_ | show VX _ _ _ _ _ _ _ | show vstep _ _ _ _ _ | show vskip _ _ _ | show withV _ _) | ((with_reducible show endA _ _ _ _ _ _ _); simp -implicitDefEqProofs only [endA]) | (with_reducible first | refine pick_viewG default (by first | omega | (simp only [LN]; omega)) (by first | omega | (simp only [LN]; omega)) ?_ | refine pick_own default (by first | omega | (simp only [LN]; omega)) ?_ | refine And.intro (by first | decide | omega | assumption | (simp only [LN]; omega)) ?_) | ((with_reducible apply callK_pure); (exact k29)) | ((with_reducible apply callF_lend); (exact k29); rfl) | ((with_reducible apply callF_go); (exact k29)) | ((with_reducible show pickE _ _ _); first | refine pickE_intro _ ⟨by omega, by rfl⟩ ?_ | refine pickE_intro _ (by rfl) ?_) | fail); try simp -dsimp -implicitDefEqProofs (maxSteps := 1000000) (disch := first | omega | (simp only [LN]; omega)) only [go_sem])
        | fail)
       refine r_loopA (α := Nat) [0, 3, 5, 94, 95] (fun i b => [(16, .p (.view 2 ((rsT k l o i).map Sp.eP))), (96, aI i)]) (fun i b => []) (fun i => []) (fun i => i ≤ o.length ∧ rsOk k l o i) (fun i => o.length - i) (0) ?h0_5 ?hs0_5 ?I_5 ?hI_5 ?round_5
       case hI_5 => intro x; (simp -dsimp -implicitDefEqProofs (maxSteps := 1000000) (disch := first | omega | (simp only [LN]; omega)) only [go_sem]) <;> exact rfl
       case hs0_5 => refine wk_auto ?_; (simp -dsimp -implicitDefEqProofs (maxSteps := 1000000) (disch := first | omega | (simp only [LN, rsT_0]; omega)) only [go_sem, rsT_0]) <;> (try omega)
       case h0_5 => exact ⟨Nat.zero_le _, fun j hj => absurd hj (by omega)⟩
       case round_5 =>
        rintro i ⟨d1, d2⟩
        have hok := ok_st hk (fun i hi => (hops i hi).2) h2 i d1
        have hcl := Sp.cont_len hok.inv
        rw [← (hrs i d1).1] at hcl
        by_cases hi : i < o.length
        ·obtain ⟨n, hnn, hnl⟩ := hto i hi
         have hc : cO l o i = l.getD n default := by unfold cO; rw [hnn]; rfl
         have hss := rsT_s k l o i
         have k44 := r44 k (rsT k l o i) (opC (l.getD n default)) (by omega)
         rw [hc] at hss
         obtain ⟨T, hT⟩ : ∃ T, rapp k (rsT k l o i) (opC (l.getD n default)) = T := ⟨_, rfl⟩
         rw [hT] at k44 hss
         by_cases hn : rsQ k l o i
         ·have hn2 : rsOk k l o (i + 1) := fun j hj => by
           rcases Nat.lt_or_ge j i with h4 | h4
           ·exact d2 j h4
           ·obtain rfl : j = i := by omega
            exact hn
          unfold rsQ at hn
          rw [hc, hT] at hn
          unfold eqR resC at hn
          unfold opC at k44
          repeat' (first
           | (with_reducible first | refine r_seq ?_ | refine r_block ?_ | refine fork_not ?_ | refine fork_and ?_ | refine fork_or ?_ | refine chk_ok (by kernel_rfl) ?_)
           | ((with_reducible first | refine fork_dec ?_ ?_ | refine fork_eq ?_ ?_ | refine fork_ne ?_ ?_ | refine fork_intro ?_ ?_) <;> intro h <;> try (exfalso; first | omega | exact h rfl | (revert h; decide) | (cases h; done)))
           | ((with_reducible show False); omega)
           | ((first | (with_reducible first | refine r_exit ?_ | refine r_skip ?_ | refine r_cond ?_ | refine r_region ?_ | refine r_ret ?_ | show VX _ _ _ _ _ _ _ | show vstep _ _ _ _ _ | show vskip _ _ _ | show withV _ _) | ((with_reducible show endA _ _ _ _ _ _ _); simp -implicitDefEqProofs only [endA]) | (with_reducible first | refine pick_viewG default (by first | omega | (simp only [LN, hnn]; omega)) (by first | omega | (simp only [LN, hnn]; omega)) ?_ | refine pick_own default (by first | omega | (simp only [LN, hnn]; omega)) ?_ | refine And.intro (by first | decide | omega | assumption | (simp only [LN, hnn]; omega)) ?_) | ((with_reducible apply callK_pure); (exact k44)) | ((with_reducible apply callF_lend); (exact k44); rfl) | ((with_reducible apply callF_go); (exact k44)) | ((with_reducible show pickE _ _ _); first | refine pickE_intro _ ⟨by omega, by rfl⟩ ?_ | refine pickE_intro _ (by rfl) ?_) | fail); try simp -dsimp -implicitDefEqProofs (maxSteps := 1000000) (disch := first | omega | (simp only [LN, hnn]; omega)) only [go_sem, hnn])
           | fail)
          all_goals first
           | (refine loopQ_next (i + 1) ?_ ?_ ?_; (exact ⟨by omega, hn2⟩); (show _ < _; omega); (simp -dsimp -implicitDefEqProofs (maxSteps := 1000000) (disch := first | omega | (simp only [LN, hss]; omega)) only [go_sem, hss]; try trivial))
           | (exfalso; have h9 := hn (by assumption); dsimp only at h9; first | exact absurd h9.1 (by assumption) | exact absurd h9.2.1 (by assumption) | exact absurd h9.2.2 (by assumption))
         ·have hv : V = 16 := by
           rw [← hV, if_pos]; exact fun hh => hn (hh i hi)
          unfold rsQ at hn
          rw [hc, hT] at hn
          unfold eqR resC at hn
          unfold opC at k44
          repeat' (first
           | (with_reducible first | refine r_seq ?_ | refine r_block ?_ | refine fork_not ?_ | refine fork_and ?_ | refine fork_or ?_ | refine chk_ok (by kernel_rfl) ?_)
           | ((with_reducible first | refine fork_dec ?_ ?_ | refine fork_eq ?_ ?_ | refine fork_ne ?_ ?_ | refine fork_intro ?_ ?_) <;> intro h <;> try (exfalso; first | omega | exact h rfl | (revert h; decide) | (cases h; done)))
           | ((with_reducible show False); omega)
           | ((first | (with_reducible first | refine r_exit ?_ | refine r_skip ?_ | refine r_cond ?_ | refine r_region ?_ | refine r_ret ?_ | show VX _ _ _ _ _ _ _ | show vstep _ _ _ _ _ | show vskip _ _ _ | show withV _ _) | ((with_reducible show endA _ _ _ _ _ _ _); simp -implicitDefEqProofs only [endA]) | (with_reducible first | refine pick_viewG default (by first | omega | (simp only [LN, hnn]; omega)) (by first | omega | (simp only [LN, hnn]; omega)) ?_ | refine pick_own default (by first | omega | (simp only [LN, hnn]; omega)) ?_ | refine And.intro (by first | decide | omega | assumption | (simp only [LN, hnn]; omega)) ?_) | ((with_reducible apply callK_pure); (exact k44)) | ((with_reducible apply callF_lend); (exact k44); rfl) | ((with_reducible apply callF_go); (exact k44)) | ((with_reducible show pickE _ _ _); first | refine pickE_intro _ ⟨by omega, by rfl⟩ ?_ | refine pickE_intro _ (by rfl) ?_) | fail); try simp -dsimp -implicitDefEqProofs (maxSteps := 1000000) (disch := first | omega | (simp only [LN, hnn]; omega)) only [go_sem, hnn])
           | fail)
          all_goals first
           | (rw [hv]; done)
           | (exfalso; exact hn fun _ => ⟨by assumption, by assumption, by assumption⟩)
           | (exfalso; exact hn fun _ => by omega)
        ·obtain rfl : i = o.length := by omega
         have n4 : ¬ ¬ rsOk k l o o.length := fun h => h d2
         rw [if_neg n4] at hV
         have k12 := r12 (rsT k l o o.length) fin
         by_cases hn : rsT k l o o.length = fin
         ·have n5 : ¬ ¬ rsT k l o o.length = fin := fun h => h hn
          rw [if_neg n5] at hV
          subst hV
          rw [decide_eq_true hn] at k12
          repeat' (first
           | (with_reducible first | refine r_seq ?_ | refine r_block ?_ | refine fork_not ?_ | refine fork_and ?_ | refine fork_or ?_ | refine chk_ok (by kernel_rfl) ?_)
           | ((with_reducible first | refine fork_dec ?_ ?_ | refine fork_eq ?_ ?_ | refine fork_ne ?_ ?_ | refine fork_intro ?_ ?_) <;> intro h <;> try (exfalso; first | omega | exact h rfl | (revert h; decide) | (cases h; done)))
           | ((with_reducible show False); omega)
           | ((first | (with_reducible first | refine r_exit ?_ | refine r_skip ?_ | refine r_cond ?_ | refine r_region ?_ | refine r_ret ?_ | show VX _ _ _ _ _ _ _ | show vstep _ _ _ _ _ | show vskip _ _ _ | show withV _ _) | ((with_reducible show endA _ _ _ _ _ _ _); simp -implicitDefEqProofs only [endA]) | (with_reducible first | refine pick_viewG default (by first | omega | (simp only [LN]; omega)) (by first | omega | (simp only [LN]; omega)) ?_ | refine pick_own default (by first | omega | (simp only [LN]; omega)) ?_ | refine And.intro (by first | decide | omega | assumption | (simp only [LN]; omega)) ?_) | ((with_reducible apply callK_pure); (exact k12)) | ((with_reducible apply callF_lend); (exact k12); rfl) | ((with_reducible apply callF_go); (exact k12)) | ((with_reducible show pickE _ _ _); first | refine pickE_intro _ ⟨by omega, by rfl⟩ ?_ | refine pickE_intro _ (by rfl) ?_) | fail); try simp -dsimp -implicitDefEqProofs (maxSteps := 1000000) (disch := first | omega | (simp only [LN]; omega)) only [go_sem])
           | fail)
          all_goals first | rfl | omega
         ·rw [if_pos hn] at hV
          subst hV
          rw [decide_eq_false hn] at k12
          repeat' (first
           | (with_reducible first | refine r_seq ?_ | refine r_block ?_ | refine fork_not ?_ | refine fork_and ?_ | refine fork_or ?_ | refine chk_ok (by kernel_rfl) ?_)
           | ((with_reducible first | refine fork_dec ?_ ?_ | refine fork_eq ?_ ?_ | refine fork_ne ?_ ?_ | refine fork_intro ?_ ?_) <;> intro h <;> try (exfalso; first | omega | exact h rfl | (revert h; decide) | (cases h; done)))
           | ((with_reducible show False); omega)
           | ((first | (with_reducible first | refine r_exit ?_ | refine r_skip ?_ | refine r_cond ?_ | refine r_region ?_ | refine r_ret ?_ | show VX _ _ _ _ _ _ _ | show vstep _ _ _ _ _ | show vskip _ _ _ | show withV _ _) | ((with_reducible show endA _ _ _ _ _ _ _); simp -implicitDefEqProofs only [endA]) | (with_reducible first | refine pick_viewG default (by first | omega | (simp only [LN]; omega)) (by first | omega | (simp only [LN]; omega)) ?_ | refine pick_own default (by first | omega | (simp only [LN]; omega)) ?_ | refine And.intro (by first | decide | omega | assumption | (simp only [LN]; omega)) ?_) | ((with_reducible apply callK_pure); (exact k12)) | ((with_reducible apply callF_lend); (exact k12); rfl) | ((with_reducible apply callF_go); (exact k12)) | ((with_reducible show pickE _ _ _); first | refine pickE_intro _ ⟨by omega, by rfl⟩ ?_ | refine pickE_intro _ (by rfl) ?_) | fail); try simp -dsimp -implicitDefEqProofs (maxSteps := 1000000) (disch := first | omega | (simp only [LN]; omega)) only [go_sem])
           | fail)
          all_goals first | rfl | omega
set_option maxRecDepth 100000 in
set_option maxHeartbeats 4000000 in
theorem c21 (l : LP) (hl : l.length ≤ 100000) : PCalls Tryz.prog 21 [.view 2 (l.map Sp.eP)] (.view 2 (l.map Sp.eP)) := by
 refine pcalls_facts ⟨_, rfl, rfl, by decide⟩ fun hf => ?_
 simp only [go_sem, big] at hf
 refine pcalls_of (E := E) (fn := Tryz.f21) 22 [.tmp 2] rfl rfl rfl rfl (by decide) rfl ?_
 repeat' (first
  | (with_reducible first | refine r_seq ?_ | refine r_block ?_ | refine fork_not ?_ | refine fork_and ?_ | refine fork_or ?_ | refine chk_ok (by kernel_rfl) ?_)
  | ((with_reducible first | refine fork_dec ?_ ?_ | refine fork_eq ?_ ?_ | refine fork_ne ?_ ?_ | refine fork_intro ?_ ?_) <;> intro h)
  | ((with_reducible show False); omega)
  | ((first | (with_reducible first | refine r_exit ?_ | refine r_skip ?_ | refine r_cond ?_ | refine r_region ?_ | refine r_ret ?_ | show VX _ _ _ _ _ _ _ | show vstep _ _ _ _ _ | show vskip _ _ _ | show withV _ _) | ((with_reducible show endA _ _ _ _ _ _ _); simp -implicitDefEqProofs only [endA]) | (with_reducible first | refine pick_viewG default (by first | omega | (simp only [LN]; omega)) (by first | omega | (simp only [LN]; omega)) ?_ | refine pick_own default (by first | omega | (simp only [LN]; omega)) ?_ | refine And.intro (by first | decide | omega | assumption | (simp only [LN]; omega)) ?_) | ((with_reducible show pickE _ _ _); first | refine pickE_intro _ ⟨by omega, by rfl⟩ ?_ | refine pickE_intro _ (by rfl) ?_) | fail); try simp -dsimp -implicitDefEqProofs (maxSteps := 1000000) (disch := first | omega | (simp only [LN]; omega)) only [go_sem])
  | fail)
 refine r_loopA (α := Nat) [6, 7] (fun i b => [(3, .sl b 2 0 i), (8, aI i)]) (fun i b => []) (fun i => [.arr 2 ((l.take i).map Sp.eP)]) (fun i => i ≤ l.length) (fun i => l.length - i) (0) ?h0_6 ?hs0_6 ?I_6 ?hI_6 ?round_6
 case hI_6 => intro x; (simp -dsimp -implicitDefEqProofs (maxSteps := 1000000) (disch := first | omega | (simp only [LN]; omega)) only [go_sem]) <;> exact rfl
 case hs0_6 => refine wk_auto ?_; (simp -dsimp -implicitDefEqProofs (maxSteps := 1000000) (disch := first | omega | (simp only [LN]; omega)) only [go_sem]) <;> (try omega)
 case h0_6 => omega
 case round_6 =>
  intro i h1
  by_cases hi : i < l.length
  ·have e := take_getD (default : Int × Int) hi
   repeat' (first
    | (with_reducible first | refine r_seq ?_ | refine r_block ?_ | refine fork_not ?_ | refine fork_and ?_ | refine fork_or ?_ | refine chk_ok (by kernel_rfl) ?_)
    | ((with_reducible first | refine fork_dec ?_ ?_ | refine fork_eq ?_ ?_ | refine fork_ne ?_ ?_ | refine fork_intro ?_ ?_) <;> intro h <;> try (exfalso; first | omega | exact h rfl | (revert h; decide) | (cases h; done)))
    | ((with_reducible show False); omega)
    | ((first | (with_reducible first | refine r_exit ?_ | refine r_skip ?_ | refine r_cond ?_ | refine r_region ?_ | refine r_ret ?_ | show VX _ _ _ _ _ _ _ | show vstep _ _ _ _ _ | show vskip _ _ _ | show withV _ _) | ((with_reducible show endA _ _ _ _ _ _ _); simp -implicitDefEqProofs only [endA]) | (with_reducible first | refine pick_viewG default (by first | omega | (simp only [LN]; omega)) (by first | omega | (simp only [LN]; omega)) ?_ | refine pick_own default (by first | omega | (simp only [LN]; omega)) ?_ | refine And.intro (by first | decide | omega | assumption | (simp only [LN]; omega)) ?_) | ((with_reducible show pickE _ _ _); first | refine pickE_intro _ ⟨by omega, by rfl⟩ ?_ | refine pickE_intro _ (by rfl) ?_) | fail); try simp -dsimp -implicitDefEqProofs (maxSteps := 1000000) (disch := first | omega | (simp only [LN]; omega)) only [go_sem])
    | fail)
   all_goals first | omega | (refine loopQ_next (i + 1) ?_ ?_ ?_; (omega); (show _ < _; omega); (simp -dsimp -implicitDefEqProofs (maxSteps := 1000000) (disch := first | omega | (simp only [LN, e, List.map_append]; omega)) only [go_sem, e, List.map_append]; try trivial))
  ·obtain rfl : i = l.length := by omega
   repeat' (first
    | (with_reducible first | refine r_seq ?_ | refine r_block ?_ | refine fork_not ?_ | refine fork_and ?_ | refine fork_or ?_ | refine chk_ok (by kernel_rfl) ?_)
    | ((with_reducible first | refine fork_dec ?_ ?_ | refine fork_eq ?_ ?_ | refine fork_ne ?_ ?_ | refine fork_intro ?_ ?_) <;> intro h <;> try (exfalso; first | omega | exact h rfl | (revert h; decide) | (cases h; done)))
    | ((with_reducible show False); omega)
    | ((first | (with_reducible first | refine r_exit ?_ | refine r_skip ?_ | refine r_cond ?_ | refine r_region ?_ | refine r_ret ?_ | show VX _ _ _ _ _ _ _ | show vstep _ _ _ _ _ | show vskip _ _ _ | show withV _ _) | ((with_reducible show endA _ _ _ _ _ _ _); simp -implicitDefEqProofs only [endA]) | (with_reducible first | refine pick_viewG default (by first | omega | (simp only [LN]; omega)) (by first | omega | (simp only [LN]; omega)) ?_ | refine pick_own default (by first | omega | (simp only [LN]; omega)) ?_ | refine And.intro (by first | decide | omega | assumption | (simp only [LN]; omega)) ?_) | ((with_reducible show pickE _ _ _); first | refine pickE_intro _ ⟨by omega, by rfl⟩ ?_ | refine pickE_intro _ (by rfl) ?_) | fail); try simp -dsimp -implicitDefEqProofs (maxSteps := 1000000) (disch := first | omega | (simp only [LN]; omega)) only [go_sem])
    | fail)
   all_goals first | omega | (rw [List.take_length]; done)
end Go.Proofs.YtpcjeaaplidmaaaGreatDoor