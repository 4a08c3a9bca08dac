/- Contracts of functions of this program, and the plain facts that they rest on. No conditions. -/
import Derived.Test.YtlldhofcdfejnaaTpDQ
set_option linter.unusedSimpArgs false
set_option linter.unusedVariables false
namespace Go.Proofs.Ytlldhofcdfejnaa
open Go Go.Ab
attribute [local irreducible] callK callF loopQ vstep vskip pickE hideP
set_option maxRecDepth 100000
def kSt (f : Nat → Int) (s : Int × Int) : Nat → Int := upd f (s.1 % 64 / 8).toNat s.2
def kAp (f : Nat → Int) (l : List (Int × Int)) : Nat → Int := l.foldl kSt f
def eqK (f g : Nat → Int) : Prop := f 0 = g 0 ∧ f 1 = g 1 ∧ f 2 = g 2 ∧ f 3 = g 3 ∧ f 4 = g 4 ∧ f 5 = g 5 ∧ f 6 = g 6 ∧ f 7 = g 7
open Classical in
noncomputable def prefM (g : Nat → Int) : List (Int × Int) → (Nat → Int) → Int
 | [], f => if eqK f g then 0 else -1
 | s :: l, f => if eqK f g then 0 else (if prefM g l (kSt f s) < 0 then -1 else prefM g l (kSt f s) + 1)
attribute [local go_sem] oK eK eWr
set_option maxRecDepth 100000 in
set_option maxHeartbeats 4000000 in
theorem kApply (f : Nat → Int) (s : Int × Int) (hs : 0 ≤ s.1 ∧ s.1 ≤ 18446744073709551615) : ACalls Try.prog 48 [.loc 0 0, .p (eWr s)] [oK f] (.p (.tup [])) [oK (kSt f s)] := by
 refine acalls_of (E := E) (fn := Try.f48) 13 [] rfl rfl rfl rfl (by decide) rfl rfl ?_
 obtain ⟨j, hj, hj2⟩ : ∃ j : Nat, j < 8 ∧ s.1 % 64 / 8 = j := ⟨(s.1 % 64 / 8).toNat, by omega, by omega⟩
 have d1 : s.1.tmod 64 = s.1 % 64 := Int.tmod_eq_emod_of_nonneg hs.1
 have d2 : (s.1 % 64).tdiv 8 = s.1 % 64 / 8 := Int.tdiv_eq_ediv_of_nonneg (by omega)
 have d3 : IntKind.u64.wrap (s.1 % 64 / 8) = s.1 % 64 / 8 := by rw [IntKind.wrap_u64]; omega
 have d4 : IntKind.u64.wrap (s.1 % 64) = s.1 % 64 := by rw [IntKind.wrap_u64]; omega
 have d6 : IntKind.u64.wrap ((s.1 % 64).tdiv 8) = (j : Int) := by rw [d2, d3, hj2]
 have hk : kSt f s = upd f j s.2 := by unfold kSt; rw [hj2]; rfl
 rw [hk]
 rcases lt8 hj with rfl | rfl | rfl | rfl | rfl | rfl | rfl | rfl
 all_goals
  repeat' (first
   | (with_reducible first | refine r_seq ?_ | refine r_block ?_ | refine fork_not ?_ | refine fork_and ?_ | refine fork_or ?_ | refine chk_ok (by kernel_rfl) ?_)
   | ((with_reducible first | refine fork_dec ?_ ?_ | refine fork_eq ?_ ?_ | refine fork_ne ?_ ?_ | refine fork_intro ?_ ?_) <;> intro h <;> try (exfalso; first | omega | exact h rfl | (revert h; decide) | (cases h; done)))
   | ((with_reducible show False); omega)
   | ((first | (with_reducible first | refine r_exit ?_ | refine r_skip ?_ | refine r_cond ?_ | refine r_region ?_ | refine r_ret ?_ | show VX _ _ _ _ _ _ _ | show vstep _ _ _ _ _ | show vskip _ _ _ | show withV _ _) | ((with_reducible show endA _ _ _ _ _ _ _); simp -implicitDefEqProofs only [endA]) | (with_reducible first | refine pick_viewG default (by first | omega | (simp only [LN, d1, d4, d6]; omega)) (by first | omega | (simp only [LN, d1, d4, d6]; omega)) ?_ | refine pick_own default (by first | omega | (simp only [LN, d1, d4, d6]; omega)) ?_ | refine And.intro (by first | decide | omega | assumption | (simp only [LN, d1, d4, d6]; omega)) ?_) | ((with_reducible show pickE _ _ _); first | refine pickE_intro _ ⟨by omega, by rfl⟩ ?_ | refine pickE_intro _ (by rfl) ?_) | fail); try simp -dsimp -implicitDefEqProofs (maxSteps := 1000000) (disch := first | omega | (simp only [LN, d1, d4, d6]; omega)) only [go_sem, d1, d4, d6])
   | fail)
  all_goals first | omega | (simp [upd]; done)
open Classical in
theorem prefM_e {g f : Nat → Int} {l : List (Int × Int)} (h : eqK f g) : prefM g l f = 0 := by cases l <;> (unfold prefM; rw [if_pos h])
open Classical in
theorem prefM_n {g f : Nat → Int} {l : List (Int × Int)} {s : Int × Int} (h : ¬ eqK f g) : prefM g (s :: l) f = if prefM g l (kSt f s) < 0 then -1 else prefM g l (kSt f s) + 1 := by rw [prefM, if_neg h]
open Classical in
theorem prefM_0 {g f : Nat → Int} (h : ¬ eqK f g) : prefM g [] f = -1 := by rw [prefM, if_neg h]
theorem kAp_s (f : Nat → Int) (l : List (Int × Int)) {i : Nat} (h : i < l.length) : kAp f (l.take (i + 1)) = kSt (kAp f (l.take i)) (l.getD i default) := by
 unfold kAp
 rw [take_getD default h, List.foldl_append]; rfl
def eqB (f g : Nat → Int) : Bool := f 0 == g 0 && (f 1 == g 1 && (f 2 == g 2 && (f 3 == g 3 && (f 4 == g 4 && (f 5 == g 5 && (f 6 == g 6 && (f 7 == g 7)))))))
theorem eqB_t {f g : Nat → Int} : eqB f g = true ↔ eqK f g := by
 unfold eqB eqK; simp only [Bool.and_eq_true, beq_iff_eq]
theorem vEqK (f g : Nat → Int) (K : AV → Prop) (h : K (.p (.v (.bool (eqB f g))))) : vEq E false 93 (.p (.agg [.v (.int .u64 (f 0)), .v (.int .u64 (f 1)), .v (.int .u64 (f 2)), .v (.int .u64 (f 3)), .v (.int .u64 (f 4)), .v (.int .u64 (f 5)), .v (.int .u64 (f 6)), .v (.int .u64 (f 7))])) (.p (.agg [.v (.int .u64 (g 0)), .v (.int .u64 (g 1)), .v (.int .u64 (g 2)), .v (.int .u64 (g 3)), .v (.int .u64 (g 4)), .v (.int .u64 (g 5)), .v (.int .u64 (g 6)), .v (.int .u64 (g 7))])) K := by
 have e : (f 0 == g 0 && (f 1 == g 1 && (f 2 == g 2 && (f 3 == g 3 && (f 4 == g 4 && (f 5 == g 5 && (f 6 == g 6 && (f 7 == g 7)))))))) = eqB f g := rfl
 simp -dsimp -implicitDefEqProofs only [go_sem, Nat.reduceAdd, Nat.reduceMul, Nat.reduceSub, Nat.reduceEqDiff, Nat.reduceLT, Nat.reduceLeDiff, e]
 exact h
attribute [-go_sem] vEq
theorem kAp_0 (f : Nat → Int) : kAp f [] = f := rfl
theorem prefM_ge (g : Nat → Int) (l : List (Int × Int)) (f : Nat → Int) : -1 ≤ prefM g l f := by
 induction l generalizing f with
 | nil => unfold prefM; split <;> omega
 | cons s l ih => unfold prefM; have := ih (kSt f s); split <;> (try split) <;> omega
theorem prefM_i {g : Nat → Int} {l : List (Int × Int)} {f : Nat → Int} : prefM g l f = (if prefM g l f < 0 then -1 else prefM g l f + ((0 : Nat) : Int)) := by
 have := prefM_ge g l f; split <;> omega
theorem prefM_s {g : Nat → Int} {l : List (Int × Int)} {f : Nat → Int} {i : Nat} (hi : i < l.length) (h : eqB (kAp f (l.take i)) g = false) (hp : prefM g l f = (if prefM g (l.drop i) (kAp f (l.take i)) < 0 then -1 else prefM g (l.drop i) (kAp f (l.take i)) + i)) : prefM g l f = (if prefM g (l.drop (i + 1)) (kAp f (l.take (i + 1))) < 0 then -1 else prefM g (l.drop (i + 1)) (kAp f (l.take (i + 1))) + ((i + 1 : Nat) : Int)) := by
 have h2 : ¬ eqK (kAp f (l.take i)) g := fun h2 => by rw [eqB_t.2 h2] at h; cases h
 have h3 : l.drop i = l.getD i default :: l.drop (i + 1) := by rw [List.drop_eq_getElem_cons hi, List.getD_eq_getElem?_getD, List.getElem?_eq_getElem hi]; rfl
 rw [h3, prefM_n h2, ← kAp_s f l hi] at hp
 rw [hp]
 have := prefM_ge g (l.drop (i + 1)) (kAp f (l.take (i + 1)))
 push_cast
 split <;> split <;> omega
set_option maxRecDepth 100000 in
set_option maxHeartbeats 4000000 in
theorem pPrefix (f g : Nat → Int) (l : List (Int × Int)) (hl : l.length ≤ 1000000) (hr : ∀ x, x ∈ l → 0 ≤ x.1 ∧ x.1 ≤ 18446744073709551615) : PCalls Try.prog 39 [eK f, .view 2 (l.map eWr), eK g] (.v (.int .i64 (prefM g l f))) := by
 refine pcalls_facts ⟨_, rfl, rfl, by decide⟩ fun hf => ?_
 simp only [go_sem, big] at hf
 refine pcalls_of (E := E) (fn := Try.f39) 28 [.tmp 6] rfl rfl rfl rfl (by decide) rfl ?_
 repeat' (first
  | (with_reducible first | refine r_seq ?_ | refine r_block ?_ | refine fork_not ?_ | refine fork_and ?_ | refine fork_or ?_ | refine chk_ok (by kernel_rfl) ?_)
  | ((with_reducible first | refine fork_dec ?_ ?_ | refine fork_eq ?_ ?_ | refine fork_ne ?_ ?_ | refine fork_intro ?_ ?_) <;> intro h)
  | ((with_reducible show False); omega)
  | ((first | (with_reducible first | refine r_exit ?_ | refine r_skip ?_ | refine r_cond ?_ | refine r_region ?_ | refine r_ret ?_ | show VX _ _ _ _ _ _ _ | show vstep _ _ _ _ _ | show vskip _ _ _ | show withV _ _) | ((with_reducible show endA _ _ _ _ _ _ _); simp -implicitDefEqProofs only [endA]) | (with_reducible first | refine pick_viewG default (by first | omega | (simp only [LN]; omega)) (by first | omega | (simp only [LN]; omega)) ?_ | refine pick_own default (by first | omega | (simp only [LN]; omega)) ?_ | refine And.intro (by first | decide | omega | assumption | (simp only [LN]; omega)) ?_) | ((with_reducible show pickE _ _ _); first | refine pickE_intro _ ⟨by omega, by rfl⟩ ?_ | refine pickE_intro _ (by rfl) ?_) | fail); try simp -dsimp -implicitDefEqProofs (maxSteps := 1000000) (disch := first | omega | (simp only [LN]; omega)) only [go_sem])
  | fail)
 refine r_loopA (α := Nat) [1, 3, 5, 9, 10] (fun i b => [(11, aI i)]) (fun i b => [(3, oK (kAp f (l.take i)))]) (fun i => []) (fun i => i ≤ l.length ∧ prefM g l f = (if prefM g (l.drop i) (kAp f (l.take i)) < 0 then -1 else prefM g (l.drop i) (kAp f (l.take i)) + i)) (fun i => l.length - i) (0) ?h0_1 ?hs0_1 ?I_1 ?hI_1 ?round_1
 case hI_1 => intro x; (simp -dsimp -implicitDefEqProofs (maxSteps := 1000000) (disch := first | omega | (simp only [LN]; omega)) only [go_sem]) <;> exact rfl
 case hs0_1 => refine wk_auto ?_; (simp -dsimp -implicitDefEqProofs (maxSteps := 1000000) (disch := first | omega | (simp only [LN, List.take_zero, kAp_0]; omega)) only [go_sem, List.take_zero, kAp_0]) <;> (try omega)
 case h0_1 => exact ⟨Nat.zero_le _, prefM_i⟩
 case round_1 =>
  rintro i ⟨hi, hp⟩
  have w3 : IntKind.i64.wrap ((i : Int) + 1) = ((i + 1 : Nat) : Int) := by rw [IntKind.wrap_i64]; push_cast; omega
  by_cases hi2 : i < l.length
  ·have hm : l.getD i default ∈ l := by rw [List.getD_eq_getElem?_getD, List.getElem?_eq_getElem hi2]; exact List.getElem_mem hi2
   have ka := kApply (kAp f (l.take i)) (l.getD i default) (hr _ hm)
   have hs := kAp_s f l hi2
   have hn := fun h => prefM_s hi2 h hp
   generalize hxx : l.getD i default = x at *
   repeat' (first
    | (with_reducible first | refine r_seq ?_ | refine r_block ?_ | refine fork_not ?_ | refine fork_and ?_ | refine fork_or ?_ | refine chk_ok (by kernel_rfl) ?_)
    | ((with_reducible first | refine fork_dec ?_ ?_ | refine fork_eq ?_ ?_ | refine fork_ne ?_ ?_ | refine fork_intro ?_ ?_) <;> intro h <;> try (exfalso; first | omega | exact h rfl | (revert h; decide) | (cases h; done)))
    | ((with_reducible show False); omega)
    | ((first | (with_reducible first | refine r_exit ?_ | refine r_skip ?_ | refine r_cond ?_ | refine r_region ?_ | refine r_ret ?_ | show VX _ _ _ _ _ _ _ | show vstep _ _ _ _ _ | show vskip _ _ _ | show withV _ _) | ((with_reducible show endA _ _ _ _ _ _ _); simp -implicitDefEqProofs only [endA]) | (with_reducible first | refine pick_viewG default (by first | omega | (simp only [LN, hxx, w3]; omega)) (by first | omega | (simp only [LN, hxx, w3]; omega)) ?_ | refine pick_own default (by first | omega | (simp only [LN, hxx, w3]; omega)) ?_ | refine And.intro (by first | decide | omega | assumption | (simp only [LN, hxx, w3]; omega)) ?_) | (with_reducible first | apply callK_lent | apply callF_lent | apply hideP_own) | ((with_reducible apply callA_go); (first | exact ka | fail)) | ((with_reducible show pickE _ _ _); first | refine pickE_intro _ ⟨by omega, by rfl⟩ ?_ | refine pickE_intro _ (by rfl) ?_) | fail); try simp -dsimp -implicitDefEqProofs (maxSteps := 1000000) (disch := first | omega | (simp only [LN, hxx, w3]; omega)) only [go_sem, hxx, w3])
    | fail)
   ·refine vEqK (kAp f (l.take i)) g _ ?_
    by_cases hq : eqB (kAp f (l.take i)) g = true
    ·rw [hq]
     rw [prefM_e (eqB_t.1 hq)] at hp
     repeat' (first
      | (with_reducible first | refine r_seq ?_ | refine r_block ?_ | refine fork_not ?_ | refine fork_and ?_ | refine fork_or ?_ | refine chk_ok (by kernel_rfl) ?_)
      | ((with_reducible first | refine fork_dec ?_ ?_ | refine fork_eq ?_ ?_ | refine fork_ne ?_ ?_ | refine fork_intro ?_ ?_) <;> intro h <;> try (exfalso; first | omega | exact h rfl | (revert h; decide) | (cases h; done)))
      | ((with_reducible show False); omega)
      | ((first | (with_reducible first | refine r_exit ?_ | refine r_skip ?_ | refine r_cond ?_ | refine r_region ?_ | refine r_ret ?_ | show VX _ _ _ _ _ _ _ | show vstep _ _ _ _ _ | show vskip _ _ _ | show withV _ _) | ((with_reducible show endA _ _ _ _ _ _ _); simp -implicitDefEqProofs only [endA]) | (with_reducible first | refine pick_viewG default (by first | omega | (simp only [LN, hxx, w3]; omega)) (by first | omega | (simp only [LN, hxx, w3]; omega)) ?_ | refine pick_own default (by first | omega | (simp only [LN, hxx, w3]; omega)) ?_ | refine And.intro (by first | decide | omega | assumption | (simp only [LN, hxx, w3]; omega)) ?_) | (with_reducible first | apply callK_lent | apply callF_lent | apply hideP_own) | ((with_reducible apply callA_go); (first | exact ka | fail)) | ((with_reducible show pickE _ _ _); first | refine pickE_intro _ ⟨by omega, by rfl⟩ ?_ | refine pickE_intro _ (by rfl) ?_) | fail); try simp -dsimp -implicitDefEqProofs (maxSteps := 1000000) (disch := first | omega | (simp only [LN, hxx, w3]; omega)) only [go_sem, hxx, w3])
      | fail)
     all_goals (rw [hp]; simp)
    ·rw [Bool.not_eq_true] at hq
     rw [hq]
     repeat' (first
      | (with_reducible first | refine r_seq ?_ | refine r_block ?_ | refine fork_not ?_ | refine fork_and ?_ | refine fork_or ?_ | refine chk_ok (by kernel_rfl) ?_)
      | ((with_reducible first | refine fork_dec ?_ ?_ | refine fork_eq ?_ ?_ | refine fork_ne ?_ ?_ | refine fork_intro ?_ ?_) <;> intro h <;> try (exfalso; first | omega | exact h rfl | (revert h; decide) | (cases h; done)))
      | ((with_reducible show False); omega)
      | ((first | (with_reducible first | refine r_exit ?_ | refine r_skip ?_ | refine r_cond ?_ | refine r_region ?_ | refine r_ret ?_ | show VX _ _ _ _ _ _ _ | show vstep _ _ _ _ _ | show vskip _ _ _ | show withV _ _) | ((with_reducible show endA _ _ _ _ _ _ _); simp -implicitDefEqProofs only [endA]) | (with_reducible first | refine pick_viewG default (by first | omega | (simp only [LN, hxx, w3]; omega)) (by first | omega | (simp only [LN, hxx, w3]; omega)) ?_ | refine pick_own default (by first | omega | (simp only [LN, hxx, w3]; omega)) ?_ | refine And.intro (by first | decide | omega | assumption | (simp only [LN, hxx, w3]; omega)) ?_) | (with_reducible first | apply callK_lent | apply callF_lent | apply hideP_own) | ((with_reducible apply callA_go); (first | exact ka | fail)) | ((with_reducible show pickE _ _ _); first | refine pickE_intro _ ⟨by omega, by rfl⟩ ?_ | refine pickE_intro _ (by rfl) ?_) | fail); try simp -dsimp -implicitDefEqProofs (maxSteps := 1000000) (disch := first | omega | (simp only [LN, hxx, w3]; omega)) only [go_sem, hxx, w3])
      | fail)
     all_goals ((refine loopQ_next (i + 1) ?_ ?_ ?_; (exact ⟨by omega, hn hq⟩); (show _ < _; omega); (simp -dsimp -implicitDefEqProofs (maxSteps := 1000000) (disch := first | omega | (simp only [LN, hs, w3]; omega)) only [go_sem, hs, w3]; try trivial)))
   all_goals omega
  ·obtain rfl : i = l.length := by omega
   clear w3
   repeat' (first
    | (with_reducible first | refine r_seq ?_ | refine r_block ?_ | refine fork_not ?_ | refine fork_and ?_ | refine fork_or ?_ | refine chk_ok (by kernel_rfl) ?_)
    | ((with_reducible first | refine fork_dec ?_ ?_ | refine fork_eq ?_ ?_ | refine fork_ne ?_ ?_ | refine fork_intro ?_ ?_) <;> intro h <;> try (exfalso; first | omega | exact h rfl | (revert h; decide) | (cases h; done)))
    | ((with_reducible show False); omega)
    | ((first | (with_reducible first | refine r_exit ?_ | refine r_skip ?_ | refine r_cond ?_ | refine r_region ?_ | refine r_ret ?_ | show VX _ _ _ _ _ _ _ | show vstep _ _ _ _ _ | show vskip _ _ _ | show withV _ _) | ((with_reducible show endA _ _ _ _ _ _ _); simp -implicitDefEqProofs only [endA]) | (with_reducible first | refine pick_viewG default (by first | omega | (simp only [LN]; omega)) (by first | omega | (simp only [LN]; omega)) ?_ | refine pick_own default (by first | omega | (simp only [LN]; omega)) ?_ | refine And.intro (by first | decide | omega | assumption | (simp only [LN]; omega)) ?_) | ((with_reducible show pickE _ _ _); first | refine pickE_intro _ ⟨by omega, by rfl⟩ ?_ | refine pickE_intro _ (by rfl) ?_) | fail); try simp -dsimp -implicitDefEqProofs (maxSteps := 1000000) (disch := first | omega | (simp only [LN]; omega)) only [go_sem])
    | fail)
   ·refine vEqK (kAp f l) g _ ?_
    rw [List.take_length, List.drop_length] at hp
    by_cases hq : eqB (kAp f l) g = true
    ·rw [hq]
     rw [prefM_e (eqB_t.1 hq)] at hp
     repeat' (first
      | (with_reducible first | refine r_seq ?_ | refine r_block ?_ | refine fork_not ?_ | refine fork_and ?_ | refine fork_or ?_ | refine chk_ok (by kernel_rfl) ?_)
      | ((with_reducible first | refine fork_dec ?_ ?_ | refine fork_eq ?_ ?_ | refine fork_ne ?_ ?_ | refine fork_intro ?_ ?_) <;> intro h <;> try (exfalso; first | omega | exact h rfl | (revert h; decide) | (cases h; done)))
      | ((with_reducible show False); omega)
      | ((first | (with_reducible first | refine r_exit ?_ | refine r_skip ?_ | refine r_cond ?_ | refine r_region ?_ | refine r_ret ?_ | show VX _ _ _ _ _ _ _ | show vstep _ _ _ _ _ | show vskip _ _ _ | show withV _ _) | ((with_reducible show endA _ _ _ _ _ _ _); simp -implicitDefEqProofs only [endA]) | (with_reducible first | refine pick_viewG default (by first | omega | (simp only [LN]; omega)) (by first | omega | (simp only [LN]; omega)) ?_ | refine pick_own default (by first | omega | (simp only [LN]; omega)) ?_ | refine And.intro (by first | decide | omega | assumption | (simp only [LN]; omega)) ?_) | ((with_reducible show pickE _ _ _); first | refine pickE_intro _ ⟨by omega, by rfl⟩ ?_ | refine pickE_intro _ (by rfl) ?_) | fail); try simp -dsimp -implicitDefEqProofs (maxSteps := 1000000) (disch := first | omega | (simp only [LN]; omega)) only [go_sem])
      | fail)
     all_goals (rw [hp]; simp)
    ·rw [Bool.not_eq_true] at hq
     rw [hq]
     rw [prefM_0 (fun h2 => by rw [eqB_t.2 h2] at hq; cases hq)] at hp
     repeat' (first
      | (with_reducible first | refine r_seq ?_ | refine r_block ?_ | refine fork_not ?_ | refine fork_and ?_ | refine fork_or ?_ | refine chk_ok (by kernel_rfl) ?_)
      | ((with_reducible first | refine fork_dec ?_ ?_ | refine fork_eq ?_ ?_ | refine fork_ne ?_ ?_ | refine fork_intro ?_ ?_) <;> intro h <;> try (exfalso; first | omega | exact h rfl | (revert h; decide) | (cases h; done)))
      | ((with_reducible show False); omega)
      | ((first | (with_reducible first | refine r_exit ?_ | refine r_skip ?_ | refine r_cond ?_ | refine r_region ?_ | refine r_ret ?_ | show VX _ _ _ _ _ _ _ | show vstep _ _ _ _ _ | show vskip _ _ _ | show withV _ _) | ((with_reducible show endA _ _ _ _ _ _ _); simp -implicitDefEqProofs only [endA]) | (with_reducible first | refine pick_viewG default (by first | omega | (simp only [LN]; omega)) (by first | omega | (simp only [LN]; omega)) ?_ | refine pick_own default (by first | omega | (simp only [LN]; omega)) ?_ | refine And.intro (by first | decide | omega | assumption | (simp only [LN]; omega)) ?_) | ((with_reducible show pickE _ _ _); first | refine pickE_intro _ ⟨by omega, by rfl⟩ ?_ | refine pickE_intro _ (by rfl) ?_) | fail); try simp -dsimp -implicitDefEqProofs (maxSteps := 1000000) (disch := first | omega | (simp only [LN]; omega)) only [go_sem])
      | fail)
     all_goals (rw [hp]; simp)
end Go.Proofs.Ytlldhofcdfejnaa