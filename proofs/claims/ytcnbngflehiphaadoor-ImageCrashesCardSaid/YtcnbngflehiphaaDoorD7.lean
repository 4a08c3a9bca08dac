/- Contracts of functions of this program, and the plain facts that they rest on. No conditions. -/
import Derived.Test.YtcnbngflehiphaaDoorD6
set_option linter.unusedSimpArgs false
set_option linter.unusedVariables false
namespace Go.Proofs.YtcnbngflehiphaaDoor
open Go Go.Ab
attribute [local irreducible] callK callF loopQ vstep vskip pickE hideP
attribute [local go_sem] eI
set_option maxRecDepth 100000
def rM (l : List UInt8) : Nat → List UInt8
 | 0 => []
 | i + 1 => rM l i ++ [l.getD i 0]
theorem rM_len (l : List UInt8) : ∀ i, (rM l i).length = i
 | 0 => rfl
 | i + 1 => by rw [rM, List.length_append, rM_len l i]; rfl
theorem rM_0 (l : List UInt8) : rM l 0 = [] := rfl
theorem rM_s (l : List UInt8) (i : Nat) : rM l (i + 1) = rM l i ++ [l.getD i 0] := rfl
theorem rM_get (l : List UInt8) : ∀ (i j : Nat), j < i → (rM l i)[j]? = some (l.getD j 0)
 | i + 1, j, h => by
  rw [rM]
  rcases Nat.lt_or_ge j i with h' | h'
  ·rw [List.getElem?_append_left (by rw [rM_len]; exact h'), rM_get l i j h']
  ·obtain rfl : j = i := by omega
   rw [List.getElem?_append_right (by rw [rM_len]; exact Nat.le_refl _), rM_len, Nat.sub_self]; rfl
theorem rM_eq (l : List UInt8) (m : Nat) : rM l m = l.take m ++ zerosM (m - l.length) := by
 apply List.ext_getElem?
 intro j
 rcases Nat.lt_or_ge j m with h | h
 ·rw [rM_get l m j h, List.getD_eq_getElem?_getD]
  rcases Nat.lt_or_ge j l.length with h2 | h2
  ·rw [List.getElem?_append_left (by simp; omega), List.getElem?_take_of_lt h, List.getElem?_eq_getElem h2]; rfl
  ·rw [List.getElem?_append_right (by simp; omega), List.getElem?_eq_none h2, zerosM, List.getElem?_replicate, if_pos (by simp; omega)]; rfl
 ·rw [List.getElem?_eq_none (by rw [rM_len]; exact h), List.getElem?_eq_none (by simp [zerosM]; omega)]
theorem step_in {l : List UInt8} {i : Nat} (h : i < l.length) (x : UInt8) : l.getD i x = l.getD i 0 := by
 rw [List.getD_eq_getElem?_getD, List.getD_eq_getElem?_getD, List.getElem?_eq_getElem h]; rfl
theorem step_out {l : List UInt8} {i : Nat} (h : ¬ i < l.length) : l.getD i 0 = 0 := by
 rw [List.getD_eq_getElem?_getD, List.getElem?_eq_none (by omega)]; rfl
set_option maxRecDepth 100000 in
set_option maxHeartbeats 4000000 in
theorem c20 (l : List UInt8) (n : Nat) (hn : n ≤ 5000) : PCalls Tryd.prog 20 [.view 1 (l.map eB), .v (.int .i64 n)] (.view 1 ((rM l (64 * n)).map eB)) := by
 refine pcalls_facts ⟨_, rfl, rfl, by decide⟩ fun hf => ?_
 simp only [go_sem, big] at hf
 refine pcalls_of (E := E) (fn := Tryd.f20) 27 [.tmp 4] rfl rfl rfl rfl (by decide) rfl ?_
 repeat' (first
  | (with_reducible first | refine r_seq ?_ | refine r_block ?_ | refine fork_not ?_ | refine fork_and ?_ | refine fork_or ?_ | refine chk_ok (by kernel_rfl) ?_)
  | ((with_reducible first | refine fork_dec ?_ ?_ | refine fork_eq ?_ ?_ | refine fork_ne ?_ ?_ | refine fork_intro ?_ ?_) <;> intro h)
  | ((with_reducible show False); omega)
  | ((first | (with_reducible first | refine r_exit ?_ | refine r_skip ?_ | refine r_cond ?_ | refine r_region ?_ | refine r_ret ?_ | show VX _ _ _ _ _ _ _ | show vstep _ _ _ _ _ | show vskip _ _ _ | show withV _ _) | ((with_reducible show endA _ _ _ _ _ _ _); simp -implicitDefEqProofs only [endA]) | (with_reducible first | refine pick_viewG default (by first | omega | (simp only [LN]; omega)) (by first | omega | (simp only [LN]; omega)) ?_ | refine pick_own default (by first | omega | (simp only [LN]; omega)) ?_ | refine And.intro (by first | decide | omega | assumption | (simp only [LN]; omega)) ?_) | ((with_reducible show pickE _ _ _); first | refine pickE_intro _ ⟨by omega, by rfl⟩ ?_ | refine pickE_intro _ (by rfl) ?_) | fail); try simp -dsimp -implicitDefEqProofs (maxSteps := 1000000) (disch := first | omega | (simp only [LN]; omega)) only [go_sem])
  | fail)
 refine r_loopA (α := Nat) [0, 1] (fun i b => [(5, .sl b 1 0 i), (6, aI i)]) (fun i b => []) (fun i => [.arr 1 ((rM l i).map eB)]) (fun i => i ≤ 64 * n) (fun i => 64 * n - i) (0) ?h0_1 ?hs0_1 ?I_1 ?hI_1 ?round_1
 case hI_1 => intro x; (simp -dsimp -implicitDefEqProofs (maxSteps := 1000000) (disch := first | omega | (simp only [LN]; omega)) only [go_sem]) <;> exact rfl
 case hs0_1 => refine wk_auto ?_; (simp -dsimp -implicitDefEqProofs (maxSteps := 1000000) (disch := first | omega | (simp only [LN, rM_0]; omega)) only [go_sem, rM_0]) <;> (try omega)
 case h0_1 => exact Nat.zero_le _
 case round_1 =>
  intro i h1
  repeat' (first
   | (with_reducible first | refine r_seq ?_ | refine r_block ?_ | refine fork_not ?_ | refine fork_and ?_ | refine fork_or ?_ | refine chk_ok (by kernel_rfl) ?_)
   | ((with_reducible first | refine fork_dec ?_ ?_ | refine fork_eq ?_ ?_ | refine fork_ne ?_ ?_ | refine fork_intro ?_ ?_) <;> intro h)
   | ((with_reducible show False); omega)
   | ((first | (with_reducible first | refine r_exit ?_ | refine r_skip ?_ | refine r_cond ?_ | refine r_region ?_ | refine r_ret ?_ | show VX _ _ _ _ _ _ _ | show vstep _ _ _ _ _ | show vskip _ _ _ | show withV _ _) | ((with_reducible show endA _ _ _ _ _ _ _); simp -implicitDefEqProofs only [endA]) | (with_reducible first | refine pick_viewG default (by first | omega | (simp only [LN, rM_len]; omega)) (by first | omega | (simp only [LN, rM_len]; omega)) ?_ | refine pick_own default (by first | omega | (simp only [LN, rM_len]; omega)) ?_ | refine And.intro (by first | decide | omega | assumption | (simp only [LN, rM_len]; omega)) ?_) | ((with_reducible show pickE _ _ _); first | refine pickE_intro _ ⟨by omega, by rfl⟩ ?_ | refine pickE_intro _ (by rfl) ?_) | fail); try simp -dsimp -implicitDefEqProofs (maxSteps := 1000000) (disch := first | omega | (simp only [LN, rM_len]; omega)) only [go_sem, rM_len])
   | fail)
  ·have e := step_in (l := l) (i := i) (by omega) default
   (refine loopQ_next (i + 1) ?_ ?_ ?_; (omega); (show _ < _; omega); (simp -dsimp -implicitDefEqProofs (maxSteps := 1000000) (disch := first | omega | (simp only [LN, rM_s, e]; omega)) only [go_sem, rM_s, e]; try trivial))
   all_goals (first | (exact .inl rfl) | rfl)
  ·have e := step_out (l := l) (i := i) (by omega)
   (refine loopQ_next (i + 1) ?_ ?_ ?_; (omega); (show _ < _; omega); (simp -dsimp -implicitDefEqProofs (maxSteps := 1000000) (disch := first | omega | (simp only [LN, rM_s, e]; omega)) only [go_sem, rM_s, e]; try trivial))
   all_goals (first | (exact .inl rfl) | rfl)
  ·rw [show i = 64 * n by omega]
theorem whole_len (p : List UInt8) : (wholeM p).length ≤ 2560 ∧ (wholeM p).length % 64 = 0 := by
 unfold wholeM; rw [List.length_take]; omega
theorem res_ok {l : List UInt8} {n : Nat} (h : n ≤ 4096) : resM l n = rM l (64 * n) := by
 rw [rM_eq, resM, if_neg (by omega), show ((n : Int) * 64).toNat = 64 * n by omega]
theorem res_back {l : List UInt8} {n m : Nat} (h : n ≤ 4096) (hm : m * 64 = l.length) (h2 : m ≤ n) : resM (resM l n) m = l := by
 rw [res_ok h, res_ok (by omega), rM_eq, rM_eq]
 have e : (List.take (64 * n) l ++ zerosM (64 * n - l.length)).length = 64 * n := by simp [zerosM]; omega
 rw [e, show 64 * m - 64 * n = 0 by omega, List.take_of_length_le (l := l) (by omega), List.take_append_of_le_length (by omega), List.take_of_length_le (by omega)]
 simp [zerosM]
theorem res_len {l : List UInt8} {n : Nat} (h : n ≤ 4096) : (resM l n).length = 64 * n := by rw [res_ok h, rM_len]
attribute [local irreducible] newM newE resM wholeM
set_option maxRecDepth 100000 in
set_option maxHeartbeats 4000000 in
theorem c4 (p : List UInt8) (n : Int) (hn : -9223372036854775808 ≤ n ∧ n ≤ 9223372036854775807) : PCalls Tryd.prog 4 [.view 1 (p.map eB), .v (.int .i64 n)] (.v (.bool true)) := by
 refine pcalls_facts ⟨_, rfl, rfl, by decide⟩ fun hf => ?_
 simp only [go_sem, big] at hf
 refine pcalls_of (E := E) (fn := Tryd.f4) 82 [.tmp 4] rfl rfl rfl rfl (by decide) rfl ?_
 have hw := whole_len p
 have e1 := new_ok hw.2 (by omega)
 have e2 := newE_ok hw.2 (by omega)
 have k18 := c18 p
 generalize hq : wholeM p = l at *
 by_cases hb : n < 0 ∨ 4096 < n
 ·have e3 : resM l n = [] := by rw [resM, if_pos hb]
  repeat' (first
   | (with_reducible first | refine r_seq ?_ | refine r_block ?_ | refine fork_not ?_ | refine fork_and ?_ | refine fork_or ?_ | refine chk_ok (by kernel_rfl) ?_)
   | ((with_reducible first | refine fork_dec ?_ ?_ | refine fork_eq ?_ ?_ | refine fork_ne ?_ ?_ | refine fork_intro ?_ ?_) <;> intro h <;> try (exfalso; first | omega | exact h rfl | (revert h; decide) | (cases h; done)))
   | ((with_reducible show False); omega)
   | ((first | (with_reducible first | refine r_exit ?_ | refine r_skip ?_ | refine r_cond ?_ | refine r_region ?_ | refine r_ret ?_ | show VX _ _ _ _ _ _ _ | show vstep _ _ _ _ _ | show vskip _ _ _ | show withV _ _) | ((with_reducible show endA _ _ _ _ _ _ _); simp -implicitDefEqProofs only [endA]) | (with_reducible first | refine pick_viewG default (by first | omega | (simp only [LN, e1, e2, e3, if_pos hb]; omega)) (by first | omega | (simp only [LN, e1, e2, e3, if_pos hb]; omega)) ?_ | refine pick_own default (by first | omega | (simp only [LN, e1, e2, e3, if_pos hb]; omega)) ?_ | refine And.intro (by first | decide | omega | assumption | (simp only [LN, e1, e2, e3, if_pos hb]; omega)) ?_) | ((with_reducible apply callK_pure); (first | exact c13 | exact k18 | exact c14 l | exact c19 l n (by omega) hn | exact c15 [] (by decide) | fail)) | ((with_reducible apply callF_lend); (first | exact c13 | exact k18 | exact c14 l | exact c19 l n (by omega) hn | exact c15 [] (by decide) | fail); rfl) | ((with_reducible apply callF_go); (first | exact c13 | exact k18 | exact c14 l | exact c19 l n (by omega) hn | exact c15 [] (by decide) | fail)) | ((with_reducible show pickE _ _ _); first | refine pickE_intro _ ⟨by omega, by rfl⟩ ?_ | refine pickE_intro _ (by rfl) ?_) | fail); try simp -dsimp -implicitDefEqProofs (maxSteps := 1000000) (disch := first | omega | (simp only [LN, e1, e2, e3, if_pos hb]; omega)) only [go_sem, e1, e2, e3, if_pos hb])
   | fail)
  all_goals first | rfl | omega
 ·obtain ⟨m, rfl⟩ := Int.eq_ofNat_of_zero_le (show 0 ≤ n by omega)
  have e4 := res_len (l := l) (n := m) (by omega)
  have e5 : (l.length : Int).tdiv 64 = ((l.length / 64 : Nat) : Int) := rfl
  by_cases h2 : 200 < m
  ·repeat' (first
    | (with_reducible first | refine r_seq ?_ | refine r_block ?_ | refine fork_not ?_ | refine fork_and ?_ | refine fork_or ?_ | refine chk_ok (by kernel_rfl) ?_)
    | ((with_reducible first | refine fork_dec ?_ ?_ | refine fork_eq ?_ ?_ | refine fork_ne ?_ ?_ | refine fork_intro ?_ ?_) <;> intro h <;> try (exfalso; first | omega | exact h rfl | (revert h; decide) | (cases h; done)))
    | ((with_reducible show False); omega)
    | ((first | (with_reducible first | refine r_exit ?_ | refine r_skip ?_ | refine r_cond ?_ | refine r_region ?_ | refine r_ret ?_ | show VX _ _ _ _ _ _ _ | show vstep _ _ _ _ _ | show vskip _ _ _ | show withV _ _) | ((with_reducible show endA _ _ _ _ _ _ _); simp -implicitDefEqProofs only [endA]) | (with_reducible first | refine pick_viewG default (by first | omega | (simp only [LN, e1, e2, e4, if_neg hb]; omega)) (by first | omega | (simp only [LN, e1, e2, e4, if_neg hb]; omega)) ?_ | refine pick_own default (by first | omega | (simp only [LN, e1, e2, e4, if_neg hb]; omega)) ?_ | refine And.intro (by first | decide | omega | assumption | (simp only [LN, e1, e2, e4, if_neg hb]; omega)) ?_) | ((with_reducible apply callK_pure); (first | exact c13 | exact k18 | exact c14 l | exact c19 l m (by omega) hn | exact c15 (resM l m) (by omega) | fail)) | ((with_reducible apply callF_lend); (first | exact c13 | exact k18 | exact c14 l | exact c19 l m (by omega) hn | exact c15 (resM l m) (by omega) | fail); rfl) | ((with_reducible apply callF_go); (first | exact c13 | exact k18 | exact c14 l | exact c19 l m (by omega) hn | exact c15 (resM l m) (by omega) | fail)) | ((with_reducible show pickE _ _ _); first | refine pickE_intro _ ⟨by omega, by rfl⟩ ?_ | refine pickE_intro _ (by rfl) ?_) | fail); try simp -dsimp -implicitDefEqProofs (maxSteps := 1000000) (disch := first | omega | (simp only [LN, e1, e2, e4, if_neg hb]; omega)) only [go_sem, e1, e2, e4, if_neg hb])
    | fail)
   all_goals first | rfl | omega | (rw [show ((64 * m : Nat) : Int) / 64 = m by omega]; simp; done)
  ·have e6 : resM l m = rM l (64 * m) := res_ok (by omega)
   repeat' (first
    | (with_reducible first | refine r_seq ?_ | refine r_block ?_ | refine fork_not ?_ | refine fork_and ?_ | refine fork_or ?_ | refine chk_ok (by kernel_rfl) ?_)
    | ((with_reducible first | refine fork_dec ?_ ?_ | refine fork_eq ?_ ?_ | refine fork_ne ?_ ?_ | refine fork_intro ?_ ?_) <;> intro h <;> try (exfalso; first | omega | exact h rfl | (revert h; decide) | (cases h; done)))
    | ((with_reducible show False); omega)
    | ((first | (with_reducible first | refine r_exit ?_ | refine r_skip ?_ | refine r_cond ?_ | refine r_region ?_ | refine r_ret ?_ | show VX _ _ _ _ _ _ _ | show vstep _ _ _ _ _ | show vskip _ _ _ | show withV _ _) | ((with_reducible show endA _ _ _ _ _ _ _); simp -implicitDefEqProofs only [endA]) | (with_reducible first | refine pick_viewG default (by first | omega | (simp only [LN, e1, e2, e4, if_neg hb]; omega)) (by first | omega | (simp only [LN, e1, e2, e4, if_neg hb]; omega)) ?_ | refine pick_own default (by first | omega | (simp only [LN, e1, e2, e4, if_neg hb]; omega)) ?_ | refine And.intro (by first | decide | omega | assumption | (simp only [LN, e1, e2, e4, if_neg hb]; omega)) ?_) | ((with_reducible apply callK_to); exact c16 (resM l m) (rM l (64 * m)) (by omega); (focus (simp -dsimp -implicitDefEqProofs (maxSteps := 1000000) (disch := first | omega | (simp only [LN, e1, e2, e4, if_neg hb]; omega)) only [go_sem, e1, e2, e4, if_neg hb]; done))) | ((with_reducible apply callK_pure); (first | exact c13 | exact k18 | exact c14 l | exact c19 l m (by omega) hn | exact c19 (resM l m) (l.length / 64 : Nat) (by omega) (by omega) | exact c20 l m (by omega) | exact c21 (resM (resM l m) (l.length / 64 : Nat)) l | fail)) | ((with_reducible apply callF_lend); (first | exact c13 | exact k18 | exact c14 l | exact c19 l m (by omega) hn | exact c19 (resM l m) (l.length / 64 : Nat) (by omega) (by omega) | exact c20 l m (by omega) | exact c21 (resM (resM l m) (l.length / 64 : Nat)) l | fail); rfl) | ((with_reducible apply callF_go); (first | exact c13 | exact k18 | exact c14 l | exact c19 l m (by omega) hn | exact c19 (resM l m) (l.length / 64 : Nat) (by omega) (by omega) | exact c20 l m (by omega) | exact c21 (resM (resM l m) (l.length / 64 : Nat)) l | fail)) | ((with_reducible show pickE _ _ _); first | refine pickE_intro _ ⟨by omega, by rfl⟩ ?_ | refine pickE_intro _ (by rfl) ?_) | fail); try simp -dsimp -implicitDefEqProofs (maxSteps := 1000000) (disch := first | omega | (simp only [LN, e1, e2, e4, if_neg hb]; omega)) only [go_sem, e1, e2, e4, if_neg hb])
    | fail)
   have e8 : ¬ (m : Int) < (l.length : Int) / 64 → resM (resM l m) ((l.length : Int) / 64) = l := fun hh => res_back (m := l.length / 64) (by omega) (by omega) (by omega)
   all_goals first | rfl | omega | (exact absurd e6 (by assumption)) | (rw [e8 (by assumption)]; simp; done)
end Go.Proofs.YtcnbngflehiphaaDoor