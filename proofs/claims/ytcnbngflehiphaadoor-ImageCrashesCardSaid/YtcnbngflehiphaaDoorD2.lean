/- Contracts of functions of this program, and the plain facts that they rest on. No conditions. -/
import Derived.Test.YtcnbngflehiphaaDoorD1
set_option linter.unusedSimpArgs false
set_option linter.unusedVariables false
namespace Go.Proofs.YtcnbngflehiphaaDoor
open Go Go.Ab
attribute [local irreducible] callK callF loopQ vstep vskip pickE hideP
attribute [local go_sem] eI
set_option maxRecDepth 100000 in
set_option maxHeartbeats 4000000 in
theorem a17 (l : List UInt8) (hl : l.length ≤ 9000000) : ACalls Tryd.prog 17 [.p (eI l)] [] (.sl 0 1 0 l.length) [.arr 1 (l.map eB)] := by
 refine acalls_of (E := E) (fn := Tryd.f17) 6 [.tmp 2] rfl rfl rfl rfl (by decide) rfl rfl ?_
 repeat' (first
  | (with_reducible first | refine r_seq ?_ | refine r_block ?_ | refine fork_not ?_ | refine fork_and ?_ | refine fork_or ?_ | refine chk_ok (by kernel_rfl) ?_)
  | ((with_reducible first | refine fork_dec ?_ ?_ | refine fork_eq ?_ ?_ | refine fork_ne ?_ ?_ | refine fork_intro ?_ ?_) <;> intro h)
  | ((with_reducible show False); omega)
  | ((first | (with_reducible first | refine r_exit ?_ | refine r_skip ?_ | refine r_cond ?_ | refine r_region ?_ | refine r_ret ?_ | show VX _ _ _ _ _ _ _ | show vstep _ _ _ _ _ | show vskip _ _ _ | show withV _ _) | ((with_reducible show endA _ _ _ _ _ _ _); simp -implicitDefEqProofs only [endA]) | (with_reducible first | refine pick_viewG default (by first | omega | (simp only [LN]; omega)) (by first | omega | (simp only [LN]; omega)) ?_ | refine pick_own default (by first | omega | (simp only [LN]; omega)) ?_ | refine And.intro (by first | decide | omega | assumption | (simp only [LN]; omega)) ?_) | ((with_reducible show pickE _ _ _); first | refine pickE_intro _ ⟨by omega, by rfl⟩ ?_ | refine pickE_intro _ (by rfl) ?_) | fail); try simp -dsimp -implicitDefEqProofs (maxSteps := 1000000) (disch := first | omega | (simp only [LN]; omega)) only [go_sem])
  | fail)
 all_goals first | (simp; done)
theorem check_0 {l : List UInt8} {o : Int} (hc : checkM l o = 0) : o < l.length ∧ o % 8 = 0 := by
 unfold checkM at hc
 split at hc
 ·omega
 ·split at hc <;> omega
def withM (l : List UInt8) (o v : Int) : List UInt8 := if checkM l o = 0 then putM l o.toNat v 8 else []
set_option maxRecDepth 100000 in
set_option maxHeartbeats 4000000 in
theorem c25 (l : List UInt8) (o v : Int) (hl : l.length ≤ 9000000) (h64 : l.length % 64 = 0) (h0 : 0 ≤ o ∧ o ≤ 18446744073709551615) (hv : 0 ≤ v ∧ v ≤ 18446744073709551615) : PCalls Tryd.prog 25 [eI l, .v (.int .u64 o), .v (.int .u64 v)] (.tup [eI (withM l o v), .v (.int .i64 (checkM l o))]) := by
 refine pcalls_of (E := E) (fn := Tryd.f25) 27 [.cell 6 25, .tmp 7] rfl rfl rfl rfl (by decide) rfl ?_
 by_cases hc : checkM l o = 0
 ·have hb : o < l.length ∧ o % 8 = 0 := check_0 hc
  have e1 : IntKind.i64.wrap o = (o.toNat : Int) := by rw [i64w (by omega) (by omega)]; omega
  repeat' (first
   | (with_reducible first | refine r_seq ?_ | refine r_block ?_ | refine fork_not ?_ | refine fork_and ?_ | refine fork_or ?_ | refine chk_ok (by kernel_rfl) ?_)
   | ((with_reducible first | refine fork_dec ?_ ?_ | refine fork_eq ?_ ?_ | refine fork_ne ?_ ?_ | refine fork_intro ?_ ?_) <;> intro h)
   | ((with_reducible show False); omega)
   | ((first | (with_reducible first | refine r_exit ?_ | refine r_skip ?_ | refine r_cond ?_ | refine r_region ?_ | refine r_ret ?_ | show VX _ _ _ _ _ _ _ | show vstep _ _ _ _ _ | show vskip _ _ _ | show withV _ _) | ((with_reducible show endA _ _ _ _ _ _ _); simp -implicitDefEqProofs only [endA]) | (with_reducible first | refine pick_viewG default (by first | omega | (simp only [LN, e1, hc]; omega)) (by first | omega | (simp only [LN, e1, hc]; omega)) ?_ | refine pick_own default (by first | omega | (simp only [LN, e1, hc]; omega)) ?_ | refine And.intro (by first | decide | omega | assumption | (simp only [LN, e1, hc]; omega)) ?_) | ((with_reducible apply callK_pure); (exact c50 l o hl h0)) | ((with_reducible apply callF_lend); (exact c50 l o hl h0); rfl) | ((with_reducible apply callF_go); (exact c50 l o hl h0)) | (with_reducible first | apply callK_lent | apply callF_lent | apply hideP_own) | ((with_reducible apply callA_go); (first | exact a17 l hl | exact c52 l o.toNat v hl (by omega) hv | fail)) | ((with_reducible show pickE _ _ _); first | refine pickE_intro _ ⟨by omega, by rfl⟩ ?_ | refine pickE_intro _ (by rfl) ?_) | fail); try simp -dsimp -implicitDefEqProofs (maxSteps := 1000000) (disch := first | omega | (simp only [LN, e1, hc]; omega)) only [go_sem, e1, hc])
   | fail)
  all_goals (rw [withM, if_pos hc, List.take_of_length_le (by rw [putM_len]; omega)])
 ·repeat' (first
   | (with_reducible first | refine r_seq ?_ | refine r_block ?_ | refine fork_not ?_ | refine fork_and ?_ | refine fork_or ?_ | refine chk_ok (by kernel_rfl) ?_)
   | ((with_reducible first | refine fork_dec ?_ ?_ | refine fork_eq ?_ ?_ | refine fork_ne ?_ ?_ | refine fork_intro ?_ ?_) <;> intro h)
   | ((with_reducible show False); omega)
   | ((first | (with_reducible first | refine r_exit ?_ | refine r_skip ?_ | refine r_cond ?_ | refine r_region ?_ | refine r_ret ?_ | show VX _ _ _ _ _ _ _ | show vstep _ _ _ _ _ | show vskip _ _ _ | show withV _ _) | ((with_reducible show endA _ _ _ _ _ _ _); simp -implicitDefEqProofs only [endA]) | (with_reducible first | refine pick_viewG default (by first | omega | (simp only [LN, hc]; omega)) (by first | omega | (simp only [LN, hc]; omega)) ?_ | refine pick_own default (by first | omega | (simp only [LN, hc]; omega)) ?_ | refine And.intro (by first | decide | omega | assumption | (simp only [LN, hc]; omega)) ?_) | ((with_reducible apply callK_pure); (exact c50 l o hl h0)) | ((with_reducible apply callF_lend); (exact c50 l o hl h0); rfl) | ((with_reducible apply callF_go); (exact c50 l o hl h0)) | ((with_reducible show pickE _ _ _); first | refine pickE_intro _ ⟨by omega, by rfl⟩ ?_ | refine pickE_intro _ (by rfl) ?_) | fail); try simp -dsimp -implicitDefEqProofs (maxSteps := 1000000) (disch := first | omega | (simp only [LN, hc]; omega)) only [go_sem, hc])
   | fail)
  all_goals first | (simp [withM, hc]; done)
def zerosM (n : Nat) : List UInt8 := List.replicate n 0
def resM (l : List UInt8) (n : Int) : List UInt8 := if n < 0 ∨ 4096 < n then [] else l.take (n * 64).toNat ++ zerosM ((n * 64).toNat - l.length)
theorem res_err {l : List UInt8} {n : Int} (h : n < 0 ∨ 4096 < n) : resM l n = [] := if_pos h
set_option maxRecDepth 100000 in
set_option maxHeartbeats 4000000 in
theorem c19 (l : List UInt8) (n : Int) (hl : l.length ≤ 9000000) (hn : -9223372036854775808 ≤ n ∧ n ≤ 9223372036854775807) : PCalls Tryd.prog 19 [eI l, .v (.int .i64 n)] (.tup [eI (resM l n), .v (.int .i64 (if n < 0 ∨ 4096 < n then 1 else 0))]) := by
 refine pcalls_of (E := E) (fn := Tryd.f19) 24 [.cell 4 25, .tmp 5] rfl rfl rfl rfl (by decide) rfl ?_
 repeat' (first
  | (with_reducible first | refine r_seq ?_ | refine r_block ?_ | refine fork_not ?_ | refine fork_and ?_ | refine fork_or ?_ | refine chk_ok (by kernel_rfl) ?_)
  | ((with_reducible first | refine fork_dec ?_ ?_ | refine fork_eq ?_ ?_ | refine fork_ne ?_ ?_ | refine fork_intro ?_ ?_) <;> intro h)
  | ((with_reducible show False); omega)
  | ((first | (with_reducible first | refine r_exit ?_ | refine r_skip ?_ | refine r_cond ?_ | refine r_region ?_ | refine r_ret ?_ | show VX _ _ _ _ _ _ _ | show vstep _ _ _ _ _ | show vskip _ _ _ | show withV _ _) | ((with_reducible show endA _ _ _ _ _ _ _); simp -implicitDefEqProofs only [endA]) | (with_reducible first | refine pick_viewG default (by first | omega | (simp only [LN, List.length_replicate, List.drop_replicate, allB_rep, allB_app, allB_map, toBs_app, toBs_rep, toBs_map, List.take_zero, List.nil_append, Bool.and_self]; omega)) (by first | omega | (simp only [LN, List.length_replicate, List.drop_replicate, allB_rep, allB_app, allB_map, toBs_app, toBs_rep, toBs_map, List.take_zero, List.nil_append, Bool.and_self]; omega)) ?_ | refine pick_own default (by first | omega | (simp only [LN, List.length_replicate, List.drop_replicate, allB_rep, allB_app, allB_map, toBs_app, toBs_rep, toBs_map, List.take_zero, List.nil_append, Bool.and_self]; omega)) ?_ | refine And.intro (by first | decide | omega | assumption | (simp only [LN, List.length_replicate, List.drop_replicate, allB_rep, allB_app, allB_map, toBs_app, toBs_rep, toBs_map, List.take_zero, List.nil_append, Bool.and_self]; omega)) ?_) | ((with_reducible show pickE _ _ _); first | refine pickE_intro _ ⟨by omega, by rfl⟩ ?_ | refine pickE_intro _ (by rfl) ?_) | fail); try simp -dsimp -implicitDefEqProofs (maxSteps := 1000000) (disch := first | omega | (simp only [LN, List.length_replicate, List.drop_replicate, allB_rep, allB_app, allB_map, toBs_app, toBs_rep, toBs_map, List.take_zero, List.nil_append, Bool.and_self]; omega)) only [go_sem, List.length_replicate, List.drop_replicate, allB_rep, allB_app, allB_map, toBs_app, toBs_rep, toBs_map, List.take_zero, List.nil_append, Bool.and_self])
  | fail)
 ·rw [res_err (.inl h), if_pos (.inl h)]; exact ⟨rfl, rfl⟩
 ·rw [res_err (.inr h), if_pos (.inr h)]; exact ⟨rfl, rfl⟩
 ·rw [resM, if_neg (by omega), if_neg (by omega), zerosM, show (n * 64).toNat - min l.length (n * 64).toNat = (n * 64).toNat - l.length by omega]; exact ⟨rfl, rfl⟩
def lineM (l : List UInt8) (n : Nat) : List UInt8 := (l.drop (n * 64)).take 64
def difM (a b : List UInt8) (n : Nat) : Bool := decide (a.length / 64 ≤ n ∨ b.length / 64 ≤ n ∨ ¬ lineM a n = lineM b n)
def diffM (a b : List UInt8) (k : Nat) : List Nat := (List.range k).filter (difM a b)
theorem diff_pos {a b : List UInt8} {k : Nat} (h : difM a b k = true) : diffM a b (k + 1) = diffM a b k ++ [k] := by
 rw [diffM, List.range_succ, List.filter_append]; simp [h, diffM]
theorem diff_neg {a b : List UInt8} {k : Nat} (h : difM a b k = false) : diffM a b (k + 1) = diffM a b k := by
 rw [diffM, List.range_succ, List.filter_append]; simp [h, diffM]
theorem diff_len (a b : List UInt8) (k : Nat) : (diffM a b k).length ≤ k := by
 have := List.length_filter_le (difM a b) (List.range k)
 rwa [List.length_range] at this
theorem diff_0 (a b : List UInt8) : diffM a b 0 = [] := rfl
def eN (n : Nat) : PV := .v (.int .i64 n)
set_option maxRecDepth 100000 in
set_option maxHeartbeats 4000000 in
theorem c23 (p q : List UInt8) (hp : p.length ≤ 9000000) (hq : q.length ≤ 9000000) : PCalls Tryd.prog 23 [eI p, eI q] (.view 1 ((diffM p q (max (p.length / 64) (q.length / 64))).map eN)) := by
 refine pcalls_of (E := E) (fn := Tryd.f23) 40 [.tmp 4] rfl rfl rfl rfl (by decide) rfl ?_
 repeat' (first
  | (with_reducible first | refine r_seq ?_ | refine r_block ?_ | refine fork_not ?_ | refine fork_and ?_ | refine fork_or ?_ | refine chk_ok (by kernel_rfl) ?_)
  | ((with_reducible first | refine fork_dec ?_ ?_ | refine fork_eq ?_ ?_ | refine fork_ne ?_ ?_ | refine fork_intro ?_ ?_) <;> intro h)
  | ((with_reducible show False); omega)
  | ((first | (with_reducible first | refine r_exit ?_ | refine r_skip ?_ | refine r_cond ?_ | refine r_region ?_ | refine r_ret ?_ | show VX _ _ _ _ _ _ _ | show vstep _ _ _ _ _ | show vskip _ _ _ | show withV _ _) | ((with_reducible show endA _ _ _ _ _ _ _); simp -implicitDefEqProofs only [endA]) | (with_reducible first | refine pick_viewG default (by first | omega | (simp only [LN]; omega)) (by first | omega | (simp only [LN]; omega)) ?_ | refine pick_own default (by first | omega | (simp only [LN]; omega)) ?_ | refine And.intro (by first | decide | omega | assumption | (simp only [LN]; omega)) ?_) | ((with_reducible apply callK_pure); (first | exact c15 p hp | exact c15 q hq | fail)) | ((with_reducible apply callF_lend); (first | exact c15 p hp | exact c15 q hq | fail); rfl) | ((with_reducible apply callF_go); (first | exact c15 p hp | exact c15 q hq | fail)) | ((with_reducible show pickE _ _ _); first | refine pickE_intro _ ⟨by omega, by rfl⟩ ?_ | refine pickE_intro _ (by rfl) ?_) | fail); try simp -dsimp -implicitDefEqProofs (maxSteps := 1000000) (disch := first | omega | (simp only [LN]; omega)) only [go_sem])
  | fail)
 refine r_loopA (α := Nat) [2, 3, 11] (fun i b => [(5, .sl b 1 0 (diffM p q i).length), (12, aI i)]) (fun i b => []) (fun i => [.arr 1 ((diffM p q i).map eN)]) (fun i => i ≤ max (p.length / 64) (q.length / 64)) (fun i => max (p.length / 64) (q.length / 64) - i) (0) ?h0_1 ?hs0_1 ?I_1 ?hI_1 ?round_1
 case hI_1 => intro x; (simp -dsimp -implicitDefEqProofs (maxSteps := 1000000) (disch := first | omega | (simp only [LN]; omega)) only [go_sem]) <;> exact rfl
 case hs0_1 => refine wk_auto ?_; (simp -dsimp -implicitDefEqProofs (maxSteps := 1000000) (disch := first | omega | (simp only [LN, diff_0]; omega)) only [go_sem, diff_0]) <;> (try omega)
 case h0_1 => exact Nat.zero_le _
 case round_1 =>
  intro i h1
  have hl := diff_len p q i
  repeat' (first
   | (with_reducible first | refine r_seq ?_ | refine r_block ?_ | refine fork_not ?_ | refine fork_and ?_ | refine fork_or ?_ | refine chk_ok (by kernel_rfl) ?_)
   | ((with_reducible first | refine fork_dec ?_ ?_ | refine fork_eq ?_ ?_ | refine fork_ne ?_ ?_ | refine fork_intro ?_ ?_) <;> intro h)
   | ((with_reducible show False); omega)
   | ((first | (with_reducible first | refine r_exit ?_ | refine r_skip ?_ | refine r_cond ?_ | refine r_region ?_ | refine r_ret ?_ | show VX _ _ _ _ _ _ _ | show vstep _ _ _ _ _ | show vskip _ _ _ | show withV _ _) | ((with_reducible show endA _ _ _ _ _ _ _); simp -implicitDefEqProofs only [endA]) | (with_reducible first | refine pick_viewG default (by first | omega | (simp only [LN]; omega)) (by first | omega | (simp only [LN]; omega)) ?_ | refine pick_own default (by first | omega | (simp only [LN]; omega)) ?_ | refine And.intro (by first | decide | omega | assumption | (simp only [LN]; omega)) ?_) | ((with_reducible apply callK_pure); (first | exact c15 p hp | exact c15 q hq | exact c49 p i hp (by omega) | exact c49 q i hq (by omega) | fail)) | ((with_reducible apply callF_lend); (first | exact c15 p hp | exact c15 q hq | exact c49 p i hp (by omega) | exact c49 q i hq (by omega) | fail); rfl) | ((with_reducible apply callF_go); (first | exact c15 p hp | exact c15 q hq | exact c49 p i hp (by omega) | exact c49 q i hq (by omega) | fail)) | ((with_reducible show pickE _ _ _); first | refine pickE_intro _ ⟨by omega, by rfl⟩ ?_ | refine pickE_intro _ (by rfl) ?_) | fail); try simp -dsimp -implicitDefEqProofs (maxSteps := 1000000) (disch := first | omega | (simp only [LN]; omega)) only [go_sem])
   | fail)
  ·have e := diff_pos (a := p) (b := q) (k := i) (by simp [difM]; omega)
   (refine loopQ_next (i + 1) ?_ ?_ ?_; (omega); (show _ < _; omega); (simp -dsimp -implicitDefEqProofs (maxSteps := 1000000) (disch := first | omega | (simp only [LN, e, eN]; omega)) only [go_sem, e, eN]; try trivial))
  ·have e := diff_pos (a := p) (b := q) (k := i) (by simp [difM]; omega)
   (refine loopQ_next (i + 1) ?_ ?_ ?_; (omega); (show _ < _; omega); (simp -dsimp -implicitDefEqProofs (maxSteps := 1000000) (disch := first | omega | (simp only [LN, e, eN]; omega)) only [go_sem, e, eN]; try trivial))
  ·have e := diff_neg (a := p) (b := q) (k := i) (by simp only [difM, lineM, h]; simp; omega)
   (refine loopQ_next (i + 1) ?_ ?_ ?_; (omega); (show _ < _; omega); (simp -dsimp -implicitDefEqProofs (maxSteps := 1000000) (disch := first | omega | (simp only [LN, e, eN]; omega)) only [go_sem, e, eN]; try trivial))
  ·have e := diff_pos (a := p) (b := q) (k := i) (by simp only [difM, lineM, h]; simp)
   (refine loopQ_next (i + 1) ?_ ?_ ?_; (omega); (show _ < _; omega); (simp -dsimp -implicitDefEqProofs (maxSteps := 1000000) (disch := first | omega | (simp only [LN, e, eN]; omega)) only [go_sem, e, eN]; try trivial))
  ·rw [show i = max (p.length / 64) (q.length / 64) by omega]
end Go.Proofs.YtcnbngflehiphaaDoor