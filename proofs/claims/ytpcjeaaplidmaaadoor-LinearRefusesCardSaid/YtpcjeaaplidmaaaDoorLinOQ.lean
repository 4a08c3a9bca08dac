/- Contracts of functions of this program, and the plain facts that they rest on. No conditions. -/
import Derived.Test.YtpcjeaaplidmaaaDoorLinJQ
set_option linter.unusedSimpArgs false
set_option linter.unusedVariables false
namespace Go.Proofs.YtpcjeaaplidmaaaDoor
open Go Go.Ab
attribute [local irreducible] callK callF loopQ vstep vskip pickE hideP
open Go.RowKit
set_option maxRecDepth 100000
attribute [local go_sem] Hi.eC Hi.rC Hi.eE Hi.hc Hi.hP Hi.oH sV eM eN eI eB pcells_L
theorem r_split0 {P : Program} {nb : Nat} {Q : Exit → ASt → Prop} {s : ASt} {c : Code} (d i sz : Nat) (hd : tget s.t d = some (.sl i sz 0 0)) (h0 : 0 < sz)
  (h1 : awp P nb c Q { s with t := (d, some (.p (.v (.slice none 0 0)))) :: s.t }) (h2 : awp P nb c Q { s with t := (d, some (.p (.nview sz []))) :: s.t }) : awp P nb c Q s := by
 refine ⟨fun Z lb a w hs => ?_⟩
 obtain ⟨u, g1, g2⟩ := hs.tm d _ hd
 have key : ∀ y, ARep Z lb w y u → St Z lb { s with t := (d, some y) :: s.t } a w := fun y hy => ⟨hs.own, fun e x hx => by
  simp only [tget] at hx
  split at hx
  ·rename_i hb
   have hb := Nat.eq_of_beq_eq_true hb
   subst hb
   simp only [Option.some.injEq] at hx
   subst hx
   exact ⟨u, g1, hy⟩
  ·exact hs.tm e x hx, hs.df, hs.sz⟩
 simp only [ARep] at g2
 rcases g2 with ⟨_, _, _, rfl⟩ | ⟨b, cap, _, rfl, hc, _⟩
 ·exact h1.run Z lb a w (key _ (by simp [ARep, Rep, oneB]))
 ·refine h2.run Z lb a w (key _ ?_)
  simp only [ARep, Rep, Reps]
  exact ⟨[], _, cap, rfl, rfl, h0, by simp, by simp, Nat.zero_le _, .inl rfl⟩
set_option maxRecDepth 100000 in
set_option maxHeartbeats 4000000 in
theorem a31e  : ACalls Tryd.prog 22 [.sl 0 11 0 0] [.arr 11 []] (.sl 1 11 0 0) [.arr 11 [], .arr 11 []] := by
 refine acalls_of (E := E) (fn := Tryd.f22) 8 [.tmp 2] rfl rfl rfl rfl (by decide) rfl rfl ?_
 refine r_split0 0 0 11 rfl (by decide) ?_ ?_
 ·repeat' (first
   | (with_reducible first | refine r_seq ?_ | refine r_block ?_ | refine fork_not ?_ | refine fork_and ?_ | refine fork_or ?_ | refine chk_ok (by kernel_rfl) ?_)
   | ((with_reducible first | refine fork_dec ?_ ?_ | refine fork_eq ?_ ?_ | refine fork_ne ?_ ?_ | refine fork_intro ?_ ?_) <;> intro h)
   | ((with_reducible show False); omega)
   | ((first | (with_reducible first | refine r_exit ?_ | refine r_skip ?_ | refine r_cond ?_ | refine r_region ?_ | refine r_ret ?_ | show VX _ _ _ _ _ _ _ | show vstep _ _ _ _ _ | show vskip _ _ _ | show withV _ _) | ((with_reducible show endA _ _ _ _ _ _ _); simp -implicitDefEqProofs only [endA]) | (with_reducible first | refine pick_viewG default (by first | omega | (simp only [LN]; omega)) (by first | omega | (simp only [LN]; omega)) ?_ | refine pick_own default (by first | omega | (simp only [LN]; omega)) ?_ | refine And.intro (by first | decide | omega | assumption | (simp only [LN]; omega)) ?_) | ((with_reducible show pickE _ _ _); first | refine pickE_intro _ ⟨by omega, by rfl⟩ ?_ | refine pickE_intro _ (by rfl) ?_) | fail); try simp -dsimp -implicitDefEqProofs (maxSteps := 1000000) (disch := first | omega | (simp only [LN]; omega)) only [go_sem])
   | fail)
 ·repeat' (first
   | (with_reducible first | refine r_seq ?_ | refine r_block ?_ | refine fork_not ?_ | refine fork_and ?_ | refine fork_or ?_ | refine chk_ok (by kernel_rfl) ?_)
   | ((with_reducible first | refine fork_dec ?_ ?_ | refine fork_eq ?_ ?_ | refine fork_ne ?_ ?_ | refine fork_intro ?_ ?_) <;> intro h)
   | ((with_reducible show False); omega)
   | ((first | (with_reducible first | refine r_exit ?_ | refine r_skip ?_ | refine r_cond ?_ | refine r_region ?_ | refine r_ret ?_ | show VX _ _ _ _ _ _ _ | show vstep _ _ _ _ _ | show vskip _ _ _ | show withV _ _) | ((with_reducible show endA _ _ _ _ _ _ _); simp -implicitDefEqProofs only [endA]) | (with_reducible first | refine pick_viewG default (by first | omega | (simp only [LN]; omega)) (by first | omega | (simp only [LN]; omega)) ?_ | refine pick_own default (by first | omega | (simp only [LN]; omega)) ?_ | refine And.intro (by first | decide | omega | assumption | (simp only [LN]; omega)) ?_) | ((with_reducible show pickE _ _ _); first | refine pickE_intro _ ⟨by omega, by rfl⟩ ?_ | refine pickE_intro _ (by rfl) ?_) | fail); try simp -dsimp -implicitDefEqProofs (maxSteps := 1000000) (disch := first | omega | (simp only [LN]; omega)) only [go_sem])
   | fail)
set_option maxRecDepth 100000 in
set_option maxHeartbeats 4000000 in
theorem a31k (l : List Hi.C) (h : 0 < l.length ∧ l.length ≤ 100000) : ACalls Tryd.prog 22 [.sl 0 11 0 l.length] [.arr 11 (l.map Hi.eC)] (.sl 1 11 0 l.length) [.arr 11 (l.map Hi.eC), .arr 11 (l.map Hi.eC)] := by
 refine acalls_of (E := E) (fn := Tryd.f22) 8 [.tmp 2] rfl rfl rfl rfl (by decide) rfl rfl ?_
 repeat' (first
  | (with_reducible first | refine r_seq ?_ | refine r_block ?_ | refine fork_not ?_ | refine fork_and ?_ | refine fork_or ?_ | refine chk_ok (by kernel_rfl) ?_)
  | ((with_reducible first | refine fork_dec ?_ ?_ | refine fork_eq ?_ ?_ | refine fork_ne ?_ ?_ | refine fork_intro ?_ ?_) <;> intro h)
  | ((with_reducible show False); omega)
  | ((first | (with_reducible first | refine r_exit ?_ | refine r_skip ?_ | refine r_cond ?_ | refine r_region ?_ | refine r_ret ?_ | show VX _ _ _ _ _ _ _ | show vstep _ _ _ _ _ | show vskip _ _ _ | show withV _ _) | ((with_reducible show endA _ _ _ _ _ _ _); simp -implicitDefEqProofs only [endA]) | (with_reducible first | refine pick_viewG default (by first | omega | (simp only [LN]; omega)) (by first | omega | (simp only [LN]; omega)) ?_ | refine pick_own default (by first | omega | (simp only [LN]; omega)) ?_ | refine And.intro (by first | decide | omega | assumption | (simp only [LN]; omega)) ?_) | ((with_reducible show pickE _ _ _); first | refine pickE_intro _ ⟨by omega, by rfl⟩ ?_ | refine pickE_intro _ (by rfl) ?_) | fail); try simp -dsimp -implicitDefEqProofs (maxSteps := 1000000) (disch := first | omega | (simp only [LN]; omega)) only [go_sem])
  | fail)
theorem a31b (l : List Hi.C) (h : l.length ≤ 100000) : ACalls Tryd.prog 22 [.sl 0 11 0 l.length] [.arr 11 (l.map Hi.eC)] (.sl 1 11 0 l.length) [.arr 11 (l.map Hi.eC), .arr 11 (l.map Hi.eC)] := by
 by_cases h0 : l.length = 0
 ·rw [List.length_eq_zero_iff.1 h0]; exact a31e
 ·exact a31k l ⟨by omega, h⟩
set_option maxRecDepth 100000 in
set_option maxHeartbeats 4000000 in
theorem o10 (x : Hi.H) (hl : x.cl.length ≤ 100000) : ACalls Tryd.prog 10 [.loc 0 0] [Hi.oH x 1 2, .arr 2 (x.ev.map Hi.eE), .arr 11 (x.cl.map Hi.eC)] (.p (.view 11 (x.cl.map Hi.eC))) [Hi.oH x 1 2, .arr 2 (x.ev.map Hi.eE), .arr 11 (x.cl.map Hi.eC)] := by
 refine acalls_of (E := E) (fn := Tryd.f10) 10 [.tmp 2] rfl rfl rfl rfl (by decide) rfl rfl ?_
 repeat' (first
  | (with_reducible first | refine r_seq ?_ | refine r_block ?_ | refine fork_not ?_ | refine fork_and ?_ | refine fork_or ?_ | refine chk_ok (by kernel_rfl) ?_)
  | ((with_reducible first | refine fork_dec ?_ ?_ | refine fork_eq ?_ ?_ | refine fork_ne ?_ ?_ | refine fork_intro ?_ ?_) <;> intro h)
  | ((with_reducible show False); omega)
  | ((first | (with_reducible first | refine r_exit ?_ | refine r_skip ?_ | refine r_cond ?_ | refine r_region ?_ | refine r_ret ?_ | show VX _ _ _ _ _ _ _ | show vstep _ _ _ _ _ | show vskip _ _ _ | show withV _ _) | ((with_reducible show endA _ _ _ _ _ _ _); simp -implicitDefEqProofs only [endA]) | (with_reducible first | refine pick_viewG default (by first | omega | (simp only [LN]; omega)) (by first | omega | (simp only [LN]; omega)) ?_ | refine pick_own default (by first | omega | (simp only [LN]; omega)) ?_ | refine And.intro (by first | decide | omega | assumption | (simp only [LN]; omega)) ?_) | (with_reducible first | apply callK_lent | apply callF_lent | apply hideP_own) | ((with_reducible apply callA_go); (first | exact a31b x.cl hl | fail)) | ((with_reducible show pickE _ _ _); first | refine pickE_intro _ ⟨by omega, by rfl⟩ ?_ | refine pickE_intro _ (by rfl) ?_) | fail); try simp -dsimp -implicitDefEqProofs (maxSteps := 1000000) (disch := first | omega | (simp only [LN]; omega)) only [go_sem])
  | fail)
set_option maxRecDepth 100000 in
set_option maxHeartbeats 4000000 in
theorem o35 (k : Int) (x : Hi.H) (hl : x.cl.length ≤ 100000) : ACalls Tryd.prog 35 [.p (.v (.int .u8 k)), .loc 0 0] [Hi.oH x 1 2, .arr 2 (x.ev.map Hi.eE), .arr 11 (x.cl.map Hi.eC)] (.p (.tup [.view 11 (if examE k x.cl = 0 then x.cl.map Hi.eC else []), .v (.int .i64 (examE k x.cl))])) [Hi.oH x 1 2, .arr 2 (x.ev.map Hi.eE), .arr 11 (x.cl.map Hi.eC)] := by
 refine acalls_of (E := E) (fn := Tryd.f35) 46 [.tmp 4, .tmp 5] rfl rfl rfl rfl (by decide) rfl rfl ?_
 by_cases hk : Sp.newK k ≠ k ∨ k = 0
 ·have e := exam_1 (l := x.cl) hk
  rw [e, if_neg (by decide)]
  repeat' (first
   | (with_reducible first | refine r_seq ?_ | refine r_block ?_ | refine fork_not ?_ | refine fork_and ?_ | refine fork_or ?_ | refine chk_ok (by kernel_rfl) ?_)
   | ((with_reducible first | refine fork_dec ?_ ?_ | refine fork_eq ?_ ?_ | refine fork_ne ?_ ?_ | refine fork_intro ?_ ?_) <;> intro h <;> try (exfalso; first | omega | exact h rfl | (revert h; decide) | (cases h; done)))
   | ((with_reducible show False); omega)
   | ((first | (with_reducible first | refine r_exit ?_ | refine r_skip ?_ | refine r_cond ?_ | refine r_region ?_ | refine r_ret ?_ | show VX _ _ _ _ _ _ _ | show vstep _ _ _ _ _ | show vskip _ _ _ | show withV _ _) | ((with_reducible show endA _ _ _ _ _ _ _); simp -implicitDefEqProofs only [endA]) | (with_reducible first | refine pick_viewG default (by first | omega | (simp only [LN]; omega)) (by first | omega | (simp only [LN]; omega)) ?_ | refine pick_own default (by first | omega | (simp only [LN]; omega)) ?_ | refine And.intro (by first | decide | omega | assumption | (simp only [LN]; omega)) ?_) | ((with_reducible apply callK_pure); (first | exact Sp.c11 k | exact c54 _ _ | fail)) | ((with_reducible apply callF_lend); (first | exact Sp.c11 k | exact c54 _ _ | fail); rfl) | ((with_reducible apply callF_go); (first | exact Sp.c11 k | exact c54 _ _ | fail)) | ((with_reducible show pickE _ _ _); first | refine pickE_intro _ ⟨by omega, by rfl⟩ ?_ | refine pickE_intro _ (by rfl) ?_) | fail); try simp -dsimp -implicitDefEqProofs (maxSteps := 1000000) (disch := first | omega | (simp only [LN]; omega)) only [go_sem])
   | fail)
  all_goals first | rfl | omega
 ·have hk2 : Sp.newK k = k ∧ k ≠ 0 := by omega
  have c11 := Sp.c11 k
  rw [hk2.1] at c11
  have c12 := fun i => Sp.c12 (ini k) (opC (x.cl.getD i default)) sorted_nil (Nat.zero_le _) (Nat.zero_le _)
  repeat' (first
   | (with_reducible first | refine r_seq ?_ | refine r_block ?_ | refine fork_not ?_ | refine fork_and ?_ | refine fork_or ?_ | refine chk_ok (by kernel_rfl) ?_)
   | ((with_reducible first | refine fork_dec ?_ ?_ | refine fork_eq ?_ ?_ | refine fork_ne ?_ ?_ | refine fork_intro ?_ ?_) <;> intro h <;> try (exfalso; first | omega | exact h rfl | (revert h; decide) | (cases h; done)))
   | ((with_reducible show False); omega)
   | ((first | (with_reducible first | refine r_exit ?_ | refine r_skip ?_ | refine r_cond ?_ | refine r_region ?_ | refine r_ret ?_ | show VX _ _ _ _ _ _ _ | show vstep _ _ _ _ _ | show vskip _ _ _ | show withV _ _) | ((with_reducible show endA _ _ _ _ _ _ _); simp -implicitDefEqProofs only [endA]) | (with_reducible first | refine pick_viewG default (by first | omega | (simp only [LN]; omega)) (by first | omega | (simp only [LN]; omega)) ?_ | refine pick_own default (by first | omega | (simp only [LN]; omega)) ?_ | refine And.intro (by first | decide | omega | assumption | (simp only [LN]; omega)) ?_) | ((with_reducible apply callK_pure); (first | exact c11 | exact c54 _ _ | fail)) | ((with_reducible apply callF_lend); (first | exact c11 | exact c54 _ _ | fail); rfl) | ((with_reducible apply callF_go); (first | exact c11 | exact c54 _ _ | fail)) | (with_reducible first | apply callK_lent | apply callF_lent | apply hideP_own) | ((with_reducible apply callA_go); (first | exact o10 x hl | fail)) | ((with_reducible show pickE _ _ _); first | refine pickE_intro _ ⟨by omega, by rfl⟩ ?_ | refine pickE_intro _ (by rfl) ?_) | fail); try simp -dsimp -implicitDefEqProofs (maxSteps := 1000000) (disch := first | omega | (simp only [LN]; omega)) only [go_sem])
   | fail)
  all_goals try omega
  refine r_loopA (α := Nat) [6, 7, 28, 29] (fun i b => [(30, aI i)]) (fun i b => []) (fun i => []) (fun i => i ≤ x.cl.length ∧ ∀ j, j < i → ¬ badC k (x.cl.getD j default)) (fun i => x.cl.length - i) (0) ?h0_1 ?hs0_1 ?I_1 ?hI_1 ?round_1
  case hI_1 => intro x; (simp -dsimp -implicitDefEqProofs (maxSteps := 1000000) (disch := first | omega | (simp only [LN]; omega)) only [go_sem]) <;> exact rfl
  case hs0_1 => refine wk_auto ?_; (simp -dsimp -implicitDefEqProofs (maxSteps := 1000000) (disch := first | omega | (simp only [LN]; omega)) only [go_sem]) <;> (try omega)
  case h0_1 => exact ⟨Nat.zero_le _, fun j hj => absurd hj (by omega)⟩
  case round_1 =>
   rintro i ⟨h1, h2⟩
   have c12 := c12 i
   unfold ini opC at c12
   rw [hk2.1] at c12
   repeat' (first
    | (with_reducible first | refine r_seq ?_ | refine r_block ?_ | refine fork_not ?_ | refine fork_and ?_ | refine fork_or ?_ | refine chk_ok (by kernel_rfl) ?_)
    | ((with_reducible first | refine fork_dec ?_ ?_ | refine fork_eq ?_ ?_ | refine fork_ne ?_ ?_ | refine fork_intro ?_ ?_) <;> intro h <;> try (exfalso; first | omega | exact h rfl | (revert h; decide) | (cases h; done)))
    | ((with_reducible show False); omega)
    | ((first | (with_reducible first | refine r_exit ?_ | refine r_skip ?_ | refine r_cond ?_ | refine r_region ?_ | refine r_ret ?_ | show VX _ _ _ _ _ _ _ | show vstep _ _ _ _ _ | show vskip _ _ _ | show withV _ _) | ((with_reducible show endA _ _ _ _ _ _ _); simp -implicitDefEqProofs only [endA]) | (with_reducible first | refine pick_viewG default (by first | omega | (simp only [LN]; omega)) (by first | omega | (simp only [LN]; omega)) ?_ | refine pick_own default (by first | omega | (simp only [LN]; omega)) ?_ | refine And.intro (by first | decide | omega | assumption | (simp only [LN]; omega)) ?_) | ((with_reducible apply callK_to); exact c12; (focus (simp -dsimp -implicitDefEqProofs (maxSteps := 1000000) (disch := first | omega | (simp only [LN]; omega)) only [go_sem]; done))) | ((with_reducible show pickE _ _ _); first | refine pickE_intro _ ⟨by omega, by rfl⟩ ?_ | refine pickE_intro _ (by rfl) ?_) | fail); try simp -dsimp -implicitDefEqProofs (maxSteps := 1000000) (disch := first | omega | (simp only [LN]; omega)) only [go_sem])
    | fail)
   all_goals first
    | (have e := exam_13 hk (l := x.cl) (i := i) (by omega) (by unfold badC ini opC; rw [hk2.1]; assumption)
       rw [e, if_neg (by decide)]
       first | exact ⟨rfl, rfl⟩ | exact ⟨⟨rfl, rfl⟩, ⟨.inl rfl, .inl rfl⟩⟩)
    | (have hb : ¬ badC k (x.cl.getD i default) := by unfold badC ini opC; rw [hk2.1]; assumption
       (refine loopQ_next (i + 1) ?_ ?_ ?_; (exact ⟨by omega, fun j hj => by rcases Nat.lt_or_ge j i with h4 | h4; (exact h2 j h4); (obtain rfl : j = i := by omega); exact hb⟩); (show _ < _; omega); (simp -dsimp -implicitDefEqProofs (maxSteps := 1000000) (disch := first | omega | (simp only [LN]; omega)) only [go_sem]; try trivial)))
    | (have e := exam_0 (l := x.cl) hk (fun j hj => h2 j (by omega))
       rw [e, if_pos rfl]; first | exact ⟨rfl, rfl⟩ | exact ⟨⟨rfl, rfl⟩, ⟨.inl rfl, .inl rfl⟩⟩)
set_option maxRecDepth 100000 in
set_option maxHeartbeats 4000000 in
theorem o29 (k : Int) (x : Hi.H) (hk : examE k x.cl = 0) (hl : x.cl.length ≤ 10) : ACalls Tryd.prog 29 [.p (.v (.int .u8 k)), .loc 0 0] [Hi.oH x 1 2, .arr 2 (x.ev.map Hi.eE), .arr 11 (x.cl.map Hi.eC)] (.tup [.loc 3 0, .p (.v (.int .i64 0))]) [Hi.oH x 1 2, .arr 2 (x.ev.map Hi.eE), .arr 11 (x.cl.map Hi.eC), sV x.cl (endN x.cl) 4 5 (.p (.v (.slice none 0 0))) (.p (.v .nilFunc)), .arr 1 ((befL x.cl x.cl.length 0).map eM), .mp none (.b fun _ => false)] := by
 refine acalls_of (E := E) (fn := Tryd.f29) 73 [.tmp 4, .tmp 5] rfl rfl rfl rfl (by decide) rfl rfl ?_
 have c35 := o35 k x (by omega)
 rw [hk, if_pos rfl] at c35
 repeat' (first
  | (with_reducible first | refine r_seq ?_ | refine r_block ?_ | refine fork_not ?_ | refine fork_and ?_ | refine fork_or ?_ | refine chk_ok (by kernel_rfl) ?_)
  | ((with_reducible first | refine fork_dec ?_ ?_ | refine fork_eq ?_ ?_ | refine fork_ne ?_ ?_ | refine fork_intro ?_ ?_) <;> intro h <;> try (exfalso; first | omega | exact h rfl | (revert h; decide) | (cases h; done)))
  | ((with_reducible show False); omega)
  | ((first | (with_reducible first | refine r_exit ?_ | refine r_skip ?_ | refine r_cond ?_ | refine r_region ?_ | refine r_ret ?_ | show VX _ _ _ _ _ _ _ | show vstep _ _ _ _ _ | show vskip _ _ _ | show withV _ _) | ((with_reducible show endA _ _ _ _ _ _ _); simp -implicitDefEqProofs only [endA]) | (with_reducible first | refine pick_viewG default (by first | omega | (simp only [LN]; omega)) (by first | omega | (simp only [LN]; omega)) ?_ | refine pick_own default (by first | omega | (simp only [LN]; omega)) ?_ | refine And.intro (by first | decide | omega | assumption | (simp only [LN]; omega)) ?_) | (with_reducible first | apply callK_lent | apply callF_lent | apply hideP_own) | ((with_reducible apply callA_go); (first | exact c35 | fail)) | ((with_reducible show pickE _ _ _); first | refine pickE_intro _ ⟨by omega, by rfl⟩ ?_ | refine pickE_intro _ (by rfl) ?_) | fail); try simp -dsimp -implicitDefEqProofs (maxSteps := 1000000) (disch := first | omega | (simp only [LN]; omega)) only [go_sem])
  | fail)
 refine r_loopA (α := Nat) [1, 6, 8, 31, 32] (fun a b => [(33, aI a)]) (fun a b => [(8, sV x.cl (maskN (endP x.cl) a) b (b + 1) (.p (.v (.slice none 0 0))) (.p (.v .nilFunc)))]) (fun a => [.arr 1 ((befL x.cl a 0).map eM), .mp none (.b fun _ => false)]) (fun a => a ≤ x.cl.length) (fun a => x.cl.length - a) (0) ?h0_2 ?hs0_2 ?I_2 ?hI_2 ?round_2
 case hI_2 => intro x; (simp -dsimp -implicitDefEqProofs (maxSteps := 1000000) (disch := first | omega | (simp only [LN]; omega)) only [go_sem]) <;> exact rfl
 case hs0_2 => refine wk_auto ?_; (simp -dsimp -implicitDefEqProofs (maxSteps := 1000000) (disch := first | omega | (simp only [LN, mask_0, befL_00]; omega)) only [go_sem, mask_0, befL_00]) <;> (try omega)
 case h0_2 => exact Nat.zero_le _
 case round_2 =>
  intro a ha
  by_cases hal : a < x.cl.length
  ·have hm1 : maskN (endP x.cl) a < 1024 := Nat.lt_of_lt_of_le (mask_lt _ a) (Nat.pow_le_pow_right (show 0 < 2 by decide) (show a ≤ 10 by omega))
   have ho := or1 (maskN (endP x.cl) a) a hm1 (by omega)
   obtain ⟨E1, hE1⟩ : ∃ E1, maskN (endP x.cl) (a + 1) = E1 := ⟨_, rfl⟩
   by_cases he : 0 ≤ (x.cl.getD a default).en
   ·rw [← endN_yes he, hE1] at ho
    repeat' (first
     | (with_reducible first | refine r_seq ?_ | refine r_block ?_ | refine fork_not ?_ | refine fork_and ?_ | refine fork_or ?_ | refine chk_ok (by kernel_rfl) ?_)
     | ((with_reducible first | refine fork_dec ?_ ?_ | refine fork_eq ?_ ?_ | refine fork_ne ?_ ?_ | refine fork_intro ?_ ?_) <;> intro h <;> try (exfalso; first | omega | exact h rfl | (revert h; decide) | (cases h; done)))
     | ((with_reducible show False); omega)
     | ((first | (with_reducible first | refine r_exit ?_ | refine r_skip ?_ | refine r_cond ?_ | refine r_region ?_ | refine r_ret ?_ | show VX _ _ _ _ _ _ _ | show vstep _ _ _ _ _ | show vskip _ _ _ | show withV _ _) | ((with_reducible show endA _ _ _ _ _ _ _); simp -implicitDefEqProofs only [endA]) | (with_reducible first | refine pick_viewG default (by first | omega | (simp only [LN, ho]; omega)) (by first | omega | (simp only [LN, ho]; omega)) ?_ | refine pick_own default (by first | omega | (simp only [LN, ho]; omega)) ?_ | refine And.intro (by first | decide | omega | assumption | (simp only [LN, ho]; omega)) ?_) | ((with_reducible show pickE _ _ _); first | refine pickE_intro _ ⟨by omega, by rfl⟩ ?_ | refine pickE_intro _ (by rfl) ?_) | fail); try simp -dsimp -implicitDefEqProofs (maxSteps := 1000000) (disch := first | omega | (simp only [LN, ho]; omega)) only [go_sem, ho])
     | fail)
    refine r_loopA (α := Nat) [1, 6, 8, 9, 31, 32, 33, 51] (fun c b => [(52, aI c)]) (fun c b => [(8, sV x.cl E1 b (b + 1) (.p (.v (.slice none 0 0))) (.p (.v .nilFunc)))]) (fun c => [.arr 1 ((befL x.cl a c).map eM), .mp none (.b fun _ => false)]) (fun c => c ≤ x.cl.length) (fun c => x.cl.length - c) (0) ?h0_3 ?hs0_3 ?I_3 ?hI_3 ?round_3
    case hI_3 => intro x; (simp -dsimp -implicitDefEqProofs (maxSteps := 1000000) (disch := first | omega | (simp only [LN]; omega)) only [go_sem]) <;> exact rfl
    case hs0_3 => refine wk_auto ?_; (simp -dsimp -implicitDefEqProofs (maxSteps := 1000000) (disch := first | omega | (simp only [LN, ho]; omega)) only [go_sem, ho]) <;> (try omega)
    case h0_3 => exact Nat.zero_le _
    case round_3 =>
     intro c hc
     by_cases hcl : c < x.cl.length
     ·have k14 := Hi.c14 x a c
      have hb0 := befL_len x.cl a c
      have hg := befL_get (l := x.cl) (a := a) (b := c) hal
      have hv := befV_lt x.cl a c a hl hc
      have hor := or1 (befV x.cl a c a) c hv (by omega)
      cases hbp : befP x.cl a c with
      | true =>
       rw [show decide (Hi.befM x.cl a c) = true from hbp] at k14
       have hs := befL_set (l := x.cl) (a := a) (b := c) hal rfl
       rw [befV_yes hbp] at hs
       repeat' (first
        | (with_reducible first | refine r_seq ?_ | refine r_block ?_ | refine fork_not ?_ | refine fork_and ?_ | refine fork_or ?_ | refine chk_ok (by kernel_rfl) ?_)
        | ((with_reducible first | refine fork_dec ?_ ?_ | refine fork_eq ?_ ?_ | refine fork_ne ?_ ?_ | refine fork_intro ?_ ?_) <;> intro h <;> try (exfalso; first | omega | exact h rfl | (revert h; decide) | (cases h; done)))
        | ((with_reducible show False); omega)
        | ((first | (with_reducible first | refine r_exit ?_ | refine r_skip ?_ | refine r_cond ?_ | refine r_region ?_ | refine r_ret ?_ | show VX _ _ _ _ _ _ _ | show vstep _ _ _ _ _ | show vskip _ _ _ | show withV _ _) | ((with_reducible show endA _ _ _ _ _ _ _); simp -implicitDefEqProofs only [endA]) | (with_reducible first | refine pick_viewG default (by first | omega | (simp only [LN, hb0, hg, hor]; omega)) (by first | omega | (simp only [LN, hb0, hg, hor]; omega)) ?_ | refine pick_own default (by first | omega | (simp only [LN, hb0, hg, hor]; omega)) ?_ | refine And.intro (by first | decide | omega | assumption | (simp only [LN, hb0, hg, hor]; omega)) ?_) | ((with_reducible apply callK_pure); (exact k14)) | ((with_reducible apply callF_lend); (exact k14); rfl) | ((with_reducible apply callF_go); (exact k14)) | ((with_reducible show pickE _ _ _); first | refine pickE_intro _ ⟨by omega, by rfl⟩ ?_ | refine pickE_intro _ (by rfl) ?_) | fail); try simp -dsimp -implicitDefEqProofs (maxSteps := 1000000) (disch := first | omega | (simp only [LN, hb0, hg, hor]; omega)) only [go_sem, hb0, hg, hor])
        | fail)
       (refine loopQ_next (c + 1) ?_ ?_ ?_; (omega); (show _ < _; omega); (simp -dsimp -implicitDefEqProofs (maxSteps := 1000000) (disch := first | omega | (simp only [LN, ← hs, List.map_set]; omega)) only [go_sem, ← hs, List.map_set]; try trivial))
      | false =>
       rw [show decide (Hi.befM x.cl a c) = false from hbp] at k14
       have hs := befV_no hbp
       repeat' (first
        | (with_reducible first | refine r_seq ?_ | refine r_block ?_ | refine fork_not ?_ | refine fork_and ?_ | refine fork_or ?_ | refine chk_ok (by kernel_rfl) ?_)
        | ((with_reducible first | refine fork_dec ?_ ?_ | refine fork_eq ?_ ?_ | refine fork_ne ?_ ?_ | refine fork_intro ?_ ?_) <;> intro h <;> try (exfalso; first | omega | exact h rfl | (revert h; decide) | (cases h; done)))
        | ((with_reducible show False); omega)
        | ((first | (with_reducible first | refine r_exit ?_ | refine r_skip ?_ | refine r_cond ?_ | refine r_region ?_ | refine r_ret ?_ | show VX _ _ _ _ _ _ _ | show vstep _ _ _ _ _ | show vskip _ _ _ | show withV _ _) | ((with_reducible show endA _ _ _ _ _ _ _); simp -implicitDefEqProofs only [endA]) | (with_reducible first | refine pick_viewG default (by first | omega | (simp only [LN, hb0, hg]; omega)) (by first | omega | (simp only [LN, hb0, hg]; omega)) ?_ | refine pick_own default (by first | omega | (simp only [LN, hb0, hg]; omega)) ?_ | refine And.intro (by first | decide | omega | assumption | (simp only [LN, hb0, hg]; omega)) ?_) | ((with_reducible apply callK_pure); (exact k14)) | ((with_reducible apply callF_lend); (exact k14); rfl) | ((with_reducible apply callF_go); (exact k14)) | ((with_reducible show pickE _ _ _); first | refine pickE_intro _ ⟨by omega, by rfl⟩ ?_ | refine pickE_intro _ (by rfl) ?_) | fail); try simp -dsimp -implicitDefEqProofs (maxSteps := 1000000) (disch := first | omega | (simp only [LN, hb0, hg]; omega)) only [go_sem, hb0, hg])
        | fail)
       (refine loopQ_next (c + 1) ?_ ?_ ?_; (omega); (show _ < _; omega); (simp -dsimp -implicitDefEqProofs (maxSteps := 1000000) (disch := first | omega | (simp only [LN, hs]; omega)) only [go_sem, hs]; try trivial))
     ·obtain rfl : c = x.cl.length := by omega
      repeat' (first
       | (with_reducible first | refine r_seq ?_ | refine r_block ?_ | refine fork_not ?_ | refine fork_and ?_ | refine fork_or ?_ | refine chk_ok (by kernel_rfl) ?_)
       | ((with_reducible first | refine fork_dec ?_ ?_ | refine fork_eq ?_ ?_ | refine fork_ne ?_ ?_ | refine fork_intro ?_ ?_) <;> intro h <;> try (exfalso; first | omega | exact h rfl | (revert h; decide) | (cases h; done)))
       | ((with_reducible show False); omega)
       | ((first | (with_reducible first | refine r_exit ?_ | refine r_skip ?_ | refine r_cond ?_ | refine r_region ?_ | refine r_ret ?_ | show VX _ _ _ _ _ _ _ | show vstep _ _ _ _ _ | show vskip _ _ _ | show withV _ _) | ((with_reducible show endA _ _ _ _ _ _ _); simp -implicitDefEqProofs only [endA]) | (with_reducible first | refine pick_viewG default (by first | omega | (simp only [LN]; omega)) (by first | omega | (simp only [LN]; omega)) ?_ | refine pick_own default (by first | omega | (simp only [LN]; omega)) ?_ | refine And.intro (by first | decide | omega | assumption | (simp only [LN]; omega)) ?_) | ((with_reducible show pickE _ _ _); first | refine pickE_intro _ ⟨by omega, by rfl⟩ ?_ | refine pickE_intro _ (by rfl) ?_) | fail); try simp -dsimp -implicitDefEqProofs (maxSteps := 1000000) (disch := first | omega | (simp only [LN]; omega)) only [go_sem])
       | fail)
      (refine loopQ_next (a + 1) ?_ ?_ ?_; (omega); (show _ < _; omega); (simp -dsimp -implicitDefEqProofs (maxSteps := 1000000) (disch := first | omega | (simp only [LN, hE1, befL_next]; omega)) only [go_sem, hE1, befL_next]; try trivial))
   ·have hn := endN_no he
    rw [hE1] at hn
    repeat' (first
     | (with_reducible first | refine r_seq ?_ | refine r_block ?_ | refine fork_not ?_ | refine fork_and ?_ | refine fork_or ?_ | refine chk_ok (by kernel_rfl) ?_)
     | ((with_reducible first | refine fork_dec ?_ ?_ | refine fork_eq ?_ ?_ | refine fork_ne ?_ ?_ | refine fork_intro ?_ ?_) <;> intro h <;> try (exfalso; first | omega | exact h rfl | (revert h; decide) | (cases h; done)))
     | ((with_reducible show False); omega)
     | ((first | (with_reducible first | refine r_exit ?_ | refine r_skip ?_ | refine r_cond ?_ | refine r_region ?_ | refine r_ret ?_ | show VX _ _ _ _ _ _ _ | show vstep _ _ _ _ _ | show vskip _ _ _ | show withV _ _) | ((with_reducible show endA _ _ _ _ _ _ _); simp -implicitDefEqProofs only [endA]) | (with_reducible first | refine pick_viewG default (by first | omega | (simp only [LN]; omega)) (by first | omega | (simp only [LN]; omega)) ?_ | refine pick_own default (by first | omega | (simp only [LN]; omega)) ?_ | refine And.intro (by first | decide | omega | assumption | (simp only [LN]; omega)) ?_) | ((with_reducible show pickE _ _ _); first | refine pickE_intro _ ⟨by omega, by rfl⟩ ?_ | refine pickE_intro _ (by rfl) ?_) | fail); try simp -dsimp -implicitDefEqProofs (maxSteps := 1000000) (disch := first | omega | (simp only [LN]; omega)) only [go_sem])
     | fail)
    refine r_loopA (α := Nat) [1, 6, 8, 9, 31, 32, 33, 51] (fun c b => [(52, aI c)]) (fun c b => [(8, sV x.cl E1 b (b + 1) (.p (.v (.slice none 0 0))) (.p (.v .nilFunc)))]) (fun c => [.arr 1 ((befL x.cl a c).map eM), .mp none (.b fun _ => false)]) (fun c => c ≤ x.cl.length) (fun c => x.cl.length - c) (0) ?h0_4 ?hs0_4 ?I_4 ?hI_4 ?round_4
    case hI_4 => intro x; (simp -dsimp -implicitDefEqProofs (maxSteps := 1000000) (disch := first | omega | (simp only [LN]; omega)) only [go_sem]) <;> exact rfl
    case hs0_4 => refine wk_auto ?_; (simp -dsimp -implicitDefEqProofs (maxSteps := 1000000) (disch := first | omega | (simp only [LN, hn]; omega)) only [go_sem, hn]) <;> (try omega)
    case h0_4 => exact Nat.zero_le _
    case round_4 =>
     intro c hc
     by_cases hcl : c < x.cl.length
     ·have k14 := Hi.c14 x a c
      have hb0 := befL_len x.cl a c
      have hg := befL_get (l := x.cl) (a := a) (b := c) hal
      have hv := befV_lt x.cl a c a hl hc
      have hor := or1 (befV x.cl a c a) c hv (by omega)
      cases hbp : befP x.cl a c with
      | true =>
       rw [show decide (Hi.befM x.cl a c) = true from hbp] at k14
       have hs := befL_set (l := x.cl) (a := a) (b := c) hal rfl
       rw [befV_yes hbp] at hs
       repeat' (first
        | (with_reducible first | refine r_seq ?_ | refine r_block ?_ | refine fork_not ?_ | refine fork_and ?_ | refine fork_or ?_ | refine chk_ok (by kernel_rfl) ?_)
        | ((with_reducible first | refine fork_dec ?_ ?_ | refine fork_eq ?_ ?_ | refine fork_ne ?_ ?_ | refine fork_intro ?_ ?_) <;> intro h <;> try (exfalso; first | omega | exact h rfl | (revert h; decide) | (cases h; done)))
        | ((with_reducible show False); omega)
        | ((first | (with_reducible first | refine r_exit ?_ | refine r_skip ?_ | refine r_cond ?_ | refine r_region ?_ | refine r_ret ?_ | show VX _ _ _ _ _ _ _ | show vstep _ _ _ _ _ | show vskip _ _ _ | show withV _ _) | ((with_reducible show endA _ _ _ _ _ _ _); simp -implicitDefEqProofs only [endA]) | (with_reducible first | refine pick_viewG default (by first | omega | (simp only [LN, hb0, hg, hor]; omega)) (by first | omega | (simp only [LN, hb0, hg, hor]; omega)) ?_ | refine pick_own default (by first | omega | (simp only [LN, hb0, hg, hor]; omega)) ?_ | refine And.intro (by first | decide | omega | assumption | (simp only [LN, hb0, hg, hor]; omega)) ?_) | ((with_reducible apply callK_pure); (exact k14)) | ((with_reducible apply callF_lend); (exact k14); rfl) | ((with_reducible apply callF_go); (exact k14)) | ((with_reducible show pickE _ _ _); first | refine pickE_intro _ ⟨by omega, by rfl⟩ ?_ | refine pickE_intro _ (by rfl) ?_) | fail); try simp -dsimp -implicitDefEqProofs (maxSteps := 1000000) (disch := first | omega | (simp only [LN, hb0, hg, hor]; omega)) only [go_sem, hb0, hg, hor])
        | fail)
       (refine loopQ_next (c + 1) ?_ ?_ ?_; (omega); (show _ < _; omega); (simp -dsimp -implicitDefEqProofs (maxSteps := 1000000) (disch := first | omega | (simp only [LN, ← hs, List.map_set]; omega)) only [go_sem, ← hs, List.map_set]; try trivial))
      | false =>
       rw [show decide (Hi.befM x.cl a c) = false from hbp] at k14
       have hs := befV_no hbp
       repeat' (first
        | (with_reducible first | refine r_seq ?_ | refine r_block ?_ | refine fork_not ?_ | refine fork_and ?_ | refine fork_or ?_ | refine chk_ok (by kernel_rfl) ?_)
        | ((with_reducible first | refine fork_dec ?_ ?_ | refine fork_eq ?_ ?_ | refine fork_ne ?_ ?_ | refine fork_intro ?_ ?_) <;> intro h <;> try (exfalso; first | omega | exact h rfl | (revert h; decide) | (cases h; done)))
        | ((with_reducible show False); omega)
        | ((first | (with_reducible first | refine r_exit ?_ | refine r_skip ?_ | refine r_cond ?_ | refine r_region ?_ | refine r_ret ?_ | show VX _ _ _ _ _ _ _ | show vstep _ _ _ _ _ | show vskip _ _ _ | show withV _ _) | ((with_reducible show endA _ _ _ _ _ _ _); simp -implicitDefEqProofs only [endA]) | (with_reducible first | refine pick_viewG default (by first | omega | (simp only [LN, hb0, hg]; omega)) (by first | omega | (simp only [LN, hb0, hg]; omega)) ?_ | refine pick_own default (by first | omega | (simp only [LN, hb0, hg]; omega)) ?_ | refine And.intro (by first | decide | omega | assumption | (simp only [LN, hb0, hg]; omega)) ?_) | ((with_reducible apply callK_pure); (exact k14)) | ((with_reducible apply callF_lend); (exact k14); rfl) | ((with_reducible apply callF_go); (exact k14)) | ((with_reducible show pickE _ _ _); first | refine pickE_intro _ ⟨by omega, by rfl⟩ ?_ | refine pickE_intro _ (by rfl) ?_) | fail); try simp -dsimp -implicitDefEqProofs (maxSteps := 1000000) (disch := first | omega | (simp only [LN, hb0, hg]; omega)) only [go_sem, hb0, hg])
        | fail)
       (refine loopQ_next (c + 1) ?_ ?_ ?_; (omega); (show _ < _; omega); (simp -dsimp -implicitDefEqProofs (maxSteps := 1000000) (disch := first | omega | (simp only [LN, hs]; omega)) only [go_sem, hs]; try trivial))
     ·obtain rfl : c = x.cl.length := by omega
      repeat' (first
       | (with_reducible first | refine r_seq ?_ | refine r_block ?_ | refine fork_not ?_ | refine fork_and ?_ | refine fork_or ?_ | refine chk_ok (by kernel_rfl) ?_)
       | ((with_reducible first | refine fork_dec ?_ ?_ | refine fork_eq ?_ ?_ | refine fork_ne ?_ ?_ | refine fork_intro ?_ ?_) <;> intro h <;> try (exfalso; first | omega | exact h rfl | (revert h; decide) | (cases h; done)))
       | ((with_reducible show False); omega)
       | ((first | (with_reducible first | refine r_exit ?_ | refine r_skip ?_ | refine r_cond ?_ | refine r_region ?_ | refine r_ret ?_ | show VX _ _ _ _ _ _ _ | show vstep _ _ _ _ _ | show vskip _ _ _ | show withV _ _) | ((with_reducible show endA _ _ _ _ _ _ _); simp -implicitDefEqProofs only [endA]) | (with_reducible first | refine pick_viewG default (by first | omega | (simp only [LN]; omega)) (by first | omega | (simp only [LN]; omega)) ?_ | refine pick_own default (by first | omega | (simp only [LN]; omega)) ?_ | refine And.intro (by first | decide | omega | assumption | (simp only [LN]; omega)) ?_) | ((with_reducible show pickE _ _ _); first | refine pickE_intro _ ⟨by omega, by rfl⟩ ?_ | refine pickE_intro _ (by rfl) ?_) | fail); try simp -dsimp -implicitDefEqProofs (maxSteps := 1000000) (disch := first | omega | (simp only [LN]; omega)) only [go_sem])
       | fail)
      (refine loopQ_next (a + 1) ?_ ?_ ?_; (omega); (show _ < _; omega); (simp -dsimp -implicitDefEqProofs (maxSteps := 1000000) (disch := first | omega | (simp only [LN, hE1, befL_next]; omega)) only [go_sem, hE1, befL_next]; try trivial))
  ·obtain rfl : a = x.cl.length := by omega
   repeat' (first
    | (with_reducible first | refine r_seq ?_ | refine r_block ?_ | refine fork_not ?_ | refine fork_and ?_ | refine fork_or ?_ | refine chk_ok (by kernel_rfl) ?_)
    | ((with_reducible first | refine fork_dec ?_ ?_ | refine fork_eq ?_ ?_ | refine fork_ne ?_ ?_ | refine fork_intro ?_ ?_) <;> intro h <;> try (exfalso; first | omega | exact h rfl | (revert h; decide) | (cases h; done)))
    | ((with_reducible show False); omega)
    | ((first | (with_reducible first | refine r_exit ?_ | refine r_skip ?_ | refine r_cond ?_ | refine r_region ?_ | refine r_ret ?_ | show VX _ _ _ _ _ _ _ | show vstep _ _ _ _ _ | show vskip _ _ _ | show withV _ _) | ((with_reducible show endA _ _ _ _ _ _ _); simp -implicitDefEqProofs only [endA]) | (with_reducible first | refine pick_viewG default (by first | omega | (simp only [LN]; omega)) (by first | omega | (simp only [LN]; omega)) ?_ | refine pick_own default (by first | omega | (simp only [LN]; omega)) ?_ | refine And.intro (by first | decide | omega | assumption | (simp only [LN]; omega)) ?_) | ((with_reducible show pickE _ _ _); first | refine pickE_intro _ ⟨by omega, by rfl⟩ ?_ | refine pickE_intro _ (by rfl) ?_) | fail); try simp -dsimp -implicitDefEqProofs (maxSteps := 1000000) (disch := first | omega | (simp only [LN]; omega)) only [go_sem])
    | fail)
   all_goals first | rfl
set_option maxRecDepth 100000 in
set_option maxHeartbeats 4000000 in
theorem o29e (k : Int) (x : Hi.H) (hl : x.cl.length ≤ 100000) (h : checkE k x.cl ≠ 0) : ACalls Tryd.prog 29 [.p (.v (.int .u8 k)), .loc 0 0] [Hi.oH x 1 2, .arr 2 (x.ev.map Hi.eE), .arr 11 (x.cl.map Hi.eC)] (.p (.tup [.v (.pointer none), .v (.int .i64 (checkE k x.cl))])) [Hi.oH x 1 2, .arr 2 (x.ev.map Hi.eE), .arr 11 (x.cl.map Hi.eC)] := by
 refine acalls_of (E := E) (fn := Tryd.f29) 73 [.tmp 4, .tmp 5] rfl rfl rfl rfl (by decide) rfl rfl ?_
 have c35 := o35 k x hl
 unfold checkE at h ⊢
 by_cases h1 : examE k x.cl ≠ 0
 ·rw [if_pos h1]
  rw [if_neg h1] at c35
  generalize examE k x.cl = e at *
  repeat' (first
   | (with_reducible first | refine r_seq ?_ | refine r_block ?_ | refine fork_not ?_ | refine fork_and ?_ | refine fork_or ?_ | refine chk_ok (by kernel_rfl) ?_)
   | ((with_reducible first | refine fork_dec ?_ ?_ | refine fork_eq ?_ ?_ | refine fork_ne ?_ ?_ | refine fork_intro ?_ ?_) <;> intro h <;> try (exfalso; first | omega | exact h rfl | (revert h; decide) | (cases h; done)))
   | ((with_reducible show False); omega)
   | ((first | (with_reducible first | refine r_exit ?_ | refine r_skip ?_ | refine r_cond ?_ | refine r_region ?_ | refine r_ret ?_ | show VX _ _ _ _ _ _ _ | show vstep _ _ _ _ _ | show vskip _ _ _ | show withV _ _) | ((with_reducible show endA _ _ _ _ _ _ _); simp -implicitDefEqProofs only [endA]) | (with_reducible first | refine pick_viewG default (by first | omega | (simp only [LN]; omega)) (by first | omega | (simp only [LN]; omega)) ?_ | refine pick_own default (by first | omega | (simp only [LN]; omega)) ?_ | refine And.intro (by first | decide | omega | assumption | (simp only [LN]; omega)) ?_) | (with_reducible first | apply callK_lent | apply callF_lent | apply hideP_own) | ((with_reducible apply callA_go); (first | exact c35 | fail)) | ((with_reducible show pickE _ _ _); first | refine pickE_intro _ ⟨by omega, by rfl⟩ ?_ | refine pickE_intro _ (by rfl) ?_) | fail); try simp -dsimp -implicitDefEqProofs (maxSteps := 1000000) (disch := first | omega | (simp only [LN]; omega)) only [go_sem])
   | fail)
  all_goals first | rfl | (exact ⟨rfl, rfl⟩) | omega
 ·have h1 : examE k x.cl = 0 := Classical.byContradiction fun hh => h1 hh
  rw [h1] at h ⊢
  rw [if_neg (by decide)] at h ⊢
  have h2 : 10 < x.cl.length := Classical.byContradiction fun hh => h (if_neg hh)
  rw [if_pos h2]
  rw [h1, if_pos rfl] at c35
  repeat' (first
   | (with_reducible first | refine r_seq ?_ | refine r_block ?_ | refine fork_not ?_ | refine fork_and ?_ | refine fork_or ?_ | refine chk_ok (by kernel_rfl) ?_)
   | ((with_reducible first | refine fork_dec ?_ ?_ | refine fork_eq ?_ ?_ | refine fork_ne ?_ ?_ | refine fork_intro ?_ ?_) <;> intro h <;> try (exfalso; first | omega | exact h rfl | (revert h; decide) | (cases h; done)))
   | ((with_reducible show False); omega)
   | ((first | (with_reducible first | refine r_exit ?_ | refine r_skip ?_ | refine r_cond ?_ | refine r_region ?_ | refine r_ret ?_ | show VX _ _ _ _ _ _ _ | show vstep _ _ _ _ _ | show vskip _ _ _ | show withV _ _) | ((with_reducible show endA _ _ _ _ _ _ _); simp -implicitDefEqProofs only [endA]) | (with_reducible first | refine pick_viewG default (by first | omega | (simp only [LN]; omega)) (by first | omega | (simp only [LN]; omega)) ?_ | refine pick_own default (by first | omega | (simp only [LN]; omega)) ?_ | refine And.intro (by first | decide | omega | assumption | (simp only [LN]; omega)) ?_) | (with_reducible first | apply callK_lent | apply callF_lent | apply hideP_own) | ((with_reducible apply callA_go); (first | exact c35 | fail)) | ((with_reducible show pickE _ _ _); first | refine pickE_intro _ ⟨by omega, by rfl⟩ ?_ | refine pickE_intro _ (by rfl) ?_) | fail); try simp -dsimp -implicitDefEqProofs (maxSteps := 1000000) (disch := first | omega | (simp only [LN]; omega)) only [go_sem])
   | fail)
  all_goals first | rfl | (exact ⟨rfl, rfl⟩) | omega
end Go.Proofs.YtpcjeaaplidmaaaDoor