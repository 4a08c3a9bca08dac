/- Contracts of functions of this program, and the plain facts that they rest on. No conditions. -/
import Derived.Test.YtpcjeaaplidmaaaDoorLinGQ
set_option linter.unusedSimpArgs false
set_option linter.unusedVariables false
namespace Go.Proofs.YtpcjeaaplidmaaaDoor
open Go Go.Ab
attribute [local irreducible] callK callF loopQ vstep vskip pickE hideP
open Go.RowKit
set_option maxRecDepth 100000
def knowsM (k op : Int) : Bool := if k = 1 then decide (op = 1 ∨ op = 2 ∨ op = 3) else if k = 2 then decide (op = 3 ∨ op = 4 ∨ op = 5 ∨ op = 6) else if k = 3 then decide (op = 7 ∨ op = 8) else decide (k = 4 ∧ (op = 1 ∨ op = 9))
theorem beqI (a b : Int) : (a == b) = decide (a = b) := by by_cases h : a = b <;> simp [h]
def kdI (kd : Int) : Int := 1 + Hi.kdM kd
set_option maxRecDepth 100000 in
set_option maxHeartbeats 4000000 in
theorem c11 (k op : Int) : PCalls Tryd.prog 11 [.v (.int .i64 k), .v (.int .i64 op)] (.v (.bool (knowsM k op))) := by
 refine pcalls_of (E := E) (fn := Tryd.f11) 52 [.tmp 4] rfl rfl rfl rfl (by decide) rfl ?_
 repeat' (first
  | (with_reducible first | refine r_seq ?_ | refine r_block ?_ | refine fork_not ?_ | refine fork_and ?_ | refine fork_or ?_ | refine chk_ok (by kernel_rfl) ?_)
  | ((with_reducible first | refine fork_dec ?_ ?_ | refine fork_eq ?_ ?_ | refine fork_ne ?_ ?_ | refine fork_intro ?_ ?_) <;> intro h)
  | ((with_reducible show False); omega)
  | ((first | (with_reducible first | refine r_exit ?_ | refine r_skip ?_ | refine r_cond ?_ | refine r_region ?_ | refine r_ret ?_ | show VX _ _ _ _ _ _ _ | show vstep _ _ _ _ _ | show vskip _ _ _ | show withV _ _) | ((with_reducible show endA _ _ _ _ _ _ _); simp -implicitDefEqProofs only [endA]) | (with_reducible first | refine pick_viewG default (by first | omega | (simp only [LN]; omega)) (by first | omega | (simp only [LN]; omega)) ?_ | refine pick_own default (by first | omega | (simp only [LN]; omega)) ?_ | refine And.intro (by first | decide | omega | assumption | (simp only [LN]; omega)) ?_) | ((with_reducible show pickE _ _ _); first | refine pickE_intro _ ⟨by omega, by rfl⟩ ?_ | refine pickE_intro _ (by rfl) ?_) | fail); try simp -dsimp -implicitDefEqProofs (maxSteps := 1000000) (disch := first | omega | (simp only [LN]; omega)) only [go_sem])
  | fail)
 all_goals (unfold knowsM; first | (simp_all [beqI]; done))
def eLot (kd : Int) (l : List Hi.S) : PV := .agg [.v (.int .i64 kd), .view 10 (l.map Hi.eS)]
attribute [local go_sem] eLot Hi.eC Hi.rC Hi.eE Hi.hc Hi.hP Hi.hW Hi.oW Hi.oP Hi.sR Hi.oH Hi.newC Hi.eS Hi.hX
def plH (kd : Int) (l : List Hi.S) (n : Nat) : Nat → Hi.H
 | 0 => Hi.h0
 | i + 1 => if Hi.kdM (l.getD i default).kd < 2 ∧ ((n : Int) ≤ (plH kd l n i).cl.length ∨ knowsM (kdI kd) (l.getD i default).k = false) then plH kd l n i else Hi.doH (plH kd l n i) (l.getD i default)
def RngS (s : Hi.S) : Prop := U64 s.key ∧ U64 s.val ∧ U64 s.old
def OpsOk (k : Int) (l : List Hi.C) : Prop := ∀ i, i < l.length → knowsM k (l.getD i default).k = true ∧ RngO (opC (l.getD i default))
theorem not_bad {k : Int} {c : Hi.C} (hk : Sp.newK k = k) (h : knowsM k c.k = true) : ¬ badC k c := by
 unfold badC ini
 rw [hk]
 unfold Sp.applyM
 unfold knowsM at h
 dsimp only
 by_cases h1 : k = 1
 ·rw [if_pos h1]
  rw [if_pos h1] at h
  have h := of_decide_eq_true h
  unfold Sp.regM opC
  dsimp only
  rcases h with h | h | h <;> rw [h] <;> (repeat' split) <;> first | (simp; done) | (simp_all; done) | (simp_all; omega)
 ·rw [if_neg h1]
  rw [if_neg h1] at h
  by_cases h2 : k = 2
  ·rw [if_pos h2]
   rw [if_pos h2] at h
   have h := of_decide_eq_true h
   rw [Sp.map_pl]
   unfold Sp.mapP' opC
   dsimp only
   rcases h with h | h | h | h <;> rw [h] <;> (repeat' split) <;> simp_all
  ·rw [if_neg h2]
   rw [if_neg h2] at h
   by_cases h3 : k = 3
   ·rw [if_pos h3]
    rw [if_pos h3] at h
    have h := of_decide_eq_true h
    unfold Sp.queM opC
    dsimp only
    rcases h with h | h <;> rw [h] <;> (repeat' split) <;> simp_all
   ·rw [if_neg h3]
    rw [if_neg h3] at h
    have h := of_decide_eq_true h
    rw [if_pos h.1]
    unfold opC
    dsimp only
    rcases h.2 with h | h <;> rw [h] <;> (repeat' split) <;> simp_all
theorem h0_ev : Hi.h0.ev = [] := rfl
theorem h0_cl : Hi.h0.cl = [] := rfl
theorem h0_era : Hi.h0.era = 0 := rfl
attribute [local irreducible] Hi.doH plH Hi.h0
end Go.Proofs.YtpcjeaaplidmaaaDoor