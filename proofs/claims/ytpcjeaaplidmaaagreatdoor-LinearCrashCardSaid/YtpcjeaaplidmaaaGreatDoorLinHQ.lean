/- Contracts of functions of this program, and the plain facts that they rest on. No conditions. -/
import Derived.Test.YtpcjeaaplidmaaaGreatDoorLinGQ
set_option linter.unusedSimpArgs false
set_option linter.unusedVariables false
namespace Go.Proofs.YtpcjeaaplidmaaaGreatDoor
open Go Go.Ab
attribute [local irreducible] callK callF loopQ vstep vskip pickE hideP
open Go.RowKit
set_option maxRecDepth 100000
def knowsM (k op : Int) : Bool := if k = 1 then decide (op = 1 ∨ op = 2 ∨ op = 3) else if k = 2 then decide (op = 3 ∨ op = 4 ∨ op = 5 ∨ op = 6) else if k = 3 then decide (op = 7 ∨ op = 8) else decide (k = 4 ∧ (op = 1 ∨ op = 9))
theorem beqI (a b : Int) : (a == b) = decide (a = b) := by by_cases h : a = b <;> simp [h]
theorem knows_rng {k op : Int} (h : knowsM k op = true) : 1 ≤ op ∧ op ≤ 9 := by
 unfold knowsM at h
 repeat' split at h
 all_goals (have := of_decide_eq_true h; omega)
def kdI (kd : Int) : Int := 1 + Hi.kdM kd
theorem kdM_rng (kd : Int) : 0 ≤ Hi.kdM kd ∧ Hi.kdM kd ≤ 3 := by
 unfold Hi.kdM
 have h1 := Hi.tm4 kd
 rw [Int.tmod_eq_emod_of_nonneg (by omega)]; omega
set_option maxRecDepth 100000 in
set_option maxHeartbeats 4000000 in
theorem c11 (k op : Int) : PCalls Tryz.prog 16 [.v (.int .i64 k), .v (.int .i64 op)] (.v (.bool (knowsM k op))) := by
 refine pcalls_of (E := E) (fn := Tryz.f16) 52 [.tmp 4] rfl rfl rfl rfl (by decide) rfl ?_
 repeat' (first
  | (with_reducible first | refine r_seq ?_ | refine r_block ?_ | refine fork_not ?_ | refine fork_and ?_ | refine fork_or ?_ | refine chk_ok (by kernel_rfl) ?_)
  | ((with_reducible first | refine fork_dec ?_ ?_ | refine fork_eq ?_ ?_ | refine fork_ne ?_ ?_ | refine fork_intro ?_ ?_) <;> intro h)
  | ((with_reducible show False); omega)
  | ((first | (with_reducible first | refine r_exit ?_ | refine r_skip ?_ | refine r_cond ?_ | refine r_region ?_ | refine r_ret ?_ | show VX _ _ _ _ _ _ _ | show vstep _ _ _ _ _ | show vskip _ _ _ | show withV _ _) | ((with_reducible show endA _ _ _ _ _ _ _); simp -implicitDefEqProofs only [endA]) | (with_reducible first | refine pick_viewG default (by first | omega | (simp only [LN]; omega)) (by first | omega | (simp only [LN]; omega)) ?_ | refine pick_own default (by first | omega | (simp only [LN]; omega)) ?_ | refine And.intro (by first | decide | omega | assumption | (simp only [LN]; omega)) ?_) | ((with_reducible show pickE _ _ _); first | refine pickE_intro _ ⟨by omega, by rfl⟩ ?_ | refine pickE_intro _ (by rfl) ?_) | fail); try simp -dsimp -implicitDefEqProofs (maxSteps := 1000000) (disch := first | omega | (simp only [LN]; omega)) only [go_sem])
  | fail)
 all_goals (unfold knowsM; first | (simp_all [beqI]; done))
def eLot (kd : Int) (l : List Hi.S) : PV := .agg [.v (.int .i64 kd), .view 10 (l.map Hi.eS)]
attribute [local go_sem] eLot Hi.eC Hi.rC Hi.eE Hi.hc Hi.hP Hi.hW Hi.oW Hi.oP Hi.sR Hi.oH Hi.newC Hi.eS Hi.hX
set_option maxRecDepth 100000 in
set_option maxHeartbeats 4000000 in
theorem c7 (kd : Int) (l : List Hi.S) : PCalls Tryz.prog 9 [eLot kd l] (.v (.int .i64 (kdI kd))) := by
 refine pcalls_of (E := E) (fn := Tryz.f9) 9 [.tmp 2] rfl rfl rfl rfl (by decide) rfl ?_
 have h := kdM_rng kd
 have hw := Hi.wkd kd
 repeat' (first
  | (with_reducible first | refine r_seq ?_ | refine r_block ?_ | refine fork_not ?_ | refine fork_and ?_ | refine fork_or ?_ | refine chk_ok (by kernel_rfl) ?_)
  | ((with_reducible first | refine fork_dec ?_ ?_ | refine fork_eq ?_ ?_ | refine fork_ne ?_ ?_ | refine fork_intro ?_ ?_) <;> intro h)
  | ((with_reducible show False); omega)
  | ((first | (with_reducible first | refine r_exit ?_ | refine r_skip ?_ | refine r_cond ?_ | refine r_region ?_ | refine r_ret ?_ | show VX _ _ _ _ _ _ _ | show vstep _ _ _ _ _ | show vskip _ _ _ | show withV _ _) | ((with_reducible show endA _ _ _ _ _ _ _); simp -implicitDefEqProofs only [endA]) | (with_reducible first | refine pick_viewG default (by first | omega | (simp only [LN, hw]; omega)) (by first | omega | (simp only [LN, hw]; omega)) ?_ | refine pick_own default (by first | omega | (simp only [LN, hw]; omega)) ?_ | refine And.intro (by first | decide | omega | assumption | (simp only [LN, hw]; omega)) ?_) | ((with_reducible show pickE _ _ _); first | refine pickE_intro _ ⟨by omega, by rfl⟩ ?_ | refine pickE_intro _ (by rfl) ?_) | fail); try simp -dsimp -implicitDefEqProofs (maxSteps := 1000000) (disch := first | omega | (simp only [LN, hw]; omega)) only [go_sem, hw])
  | fail)
 all_goals first | rfl
def plH (kd : Int) (l : List Hi.S) (n : Nat) : Nat → Hi.H
 | 0 => Hi.h0
 | i + 1 => if Hi.kdM (l.getD i default).kd < 2 ∧ ((n : Int) ≤ (plH kd l n i).cl.length ∨ knowsM (kdI kd) (l.getD i default).k = false) then plH kd l n i else Hi.doH (plH kd l n i) (l.getD i default)
theorem pl_0 (kd : Int) (l : List Hi.S) (n : Nat) : plH kd l n 0 = Hi.h0 := rfl
theorem pl_skip {kd : Int} {l : List Hi.S} {n i : Nat} (h : Hi.kdM (l.getD i default).kd < 2 ∧ ((n : Int) ≤ (plH kd l n i).cl.length ∨ knowsM (kdI kd) (l.getD i default).k = false)) : plH kd l n (i + 1) = plH kd l n i := by rw [plH, if_pos h]
theorem pl_do {kd : Int} {l : List Hi.S} {n i : Nat} (h : ¬ (Hi.kdM (l.getD i default).kd < 2 ∧ ((n : Int) ≤ (plH kd l n i).cl.length ∨ knowsM (kdI kd) (l.getD i default).k = false))) : plH kd l n (i + 1) = Hi.doH (plH kd l n i) (l.getD i default) := by rw [plH, if_neg h]
theorem pl_inv (kd : Int) (l : List Hi.S) (n : Nat) : ∀ i, Hi.Inv (plH kd l n i)
 | 0 => Hi.inv_h0
 | i + 1 => by
  rw [plH]; split
  ·exact pl_inv kd l n i
  ·exact Hi.inv_do (pl_inv kd l n i)
theorem pl_len (kd : Int) (l : List Hi.S) (n : Nat) : ∀ i, (plH kd l n i).ev.length ≤ i ∧ (plH kd l n i).cl.length ≤ i ∧ (plH kd l n i).era ≤ i
 | 0 => ⟨Nat.le_refl _, Nat.le_refl _, Int.le_refl _⟩
 | i + 1 => by
  have h := pl_len kd l n i
  have h2 := Hi.do_len (plH kd l n i) (l.getD i default)
  rw [plH]; split <;> omega
theorem do_calls (x : Hi.H) (s : Hi.S) : (Hi.doH x s).cl.length ≤ x.cl.length + (if Hi.kdM s.kd < 2 then 1 else 0) := by
 unfold Hi.doH
 split
 ·have := Hi.do_len x s
  split
  ·rename_i h h2
   simp only [Hi.invH, List.length_append, List.length_singleton]; split <;> omega
  ·omega
 ·split
  ·split
   ·simp [Hi.retH]
   ·omega
  ·simp [Hi.crashH]
theorem pl_calls (kd : Int) (l : List Hi.S) (n : Nat) : ∀ i, (plH kd l n i).cl.length ≤ n
 | 0 => Nat.zero_le _
 | i + 1 => by
  have ih := pl_calls kd l n i
  rw [plH]; split
  ·exact ih
  ·rename_i h
   have := do_calls (plH kd l n i) (l.getD i default)
   split at this <;> omega
def RngS (s : Hi.S) : Prop := U64 s.key ∧ U64 s.val ∧ U64 s.old
def OpsOk (k : Int) (l : List Hi.C) : Prop := ∀ i, i < l.length → knowsM k (l.getD i default).k = true ∧ RngO (opC (l.getD i default))
theorem ops_do {k : Int} {x : Hi.H} {s : Hi.S} (h : OpsOk k x.cl) (hs : RngS s) (hk : Hi.kdM s.kd < 2 → knowsM k s.k = true) : OpsOk k (Hi.doH x s).cl := by
 unfold Hi.doH
 split
 ·rename_i hd
  split
  ·rename_i hok
   intro i hi
   simp only [Hi.invH, List.length_append, List.length_singleton] at hi ⊢
   rcases Nat.lt_or_ge i x.cl.length with h4 | h4
   ·rw [Hi.gA_lt _ _ _ _ h4]; exact h i h4
   ·obtain rfl : i = x.cl.length := by omega
    rw [Hi.gA_eq]
    have hk := hk (by omega)
    have hr := knows_rng hk
    refine ⟨?_, hs.1, hs.2.1, hs.2.2⟩
    show knowsM k (s.k % 256) = true
    rw [show s.k % 256 = s.k by omega]; exact hk
  ·exact h
 ·split
  ·split
   ·rename_i hp
    intro i hi
    simp only [Hi.retH, List.length_set] at hi ⊢
    by_cases e : i = s.call.toNat
    ·subst e
     rw [Hi.getD_set_self _ _ _ _ hi]
     exact h _ hi
    ·rw [Hi.gS_ne _ _ _ _ _ e]; exact h i hi
   ·exact h
  ·exact h
theorem pl_ops (kd : Int) (l : List Hi.S) (n : Nat) (hr : ∀ s, s ∈ l → RngS s) : ∀ i, OpsOk (kdI kd) (plH kd l n i).cl
 | 0 => fun i hi => absurd hi (by simp [plH, Hi.h0])
 | i + 1 => by
  have ih := pl_ops kd l n hr i
  rw [plH]; split
  ·exact ih
  ·rename_i h
   refine ops_do ih ?_ fun h2 => ?_
   ·by_cases hi : i < l.length
    ·rw [Hi.getD_get _ _ _ hi]; exact hr _ (List.getElem_mem hi)
    ·rw [List.getD_eq_getElem?_getD, List.getElem?_eq_none (by omega)]
     exact ⟨⟨Int.le_refl _, (by decide : (0 : Int) ≤ 18446744073709551615)⟩, ⟨Int.le_refl _, (by decide : (0 : Int) ≤ 18446744073709551615)⟩, ⟨Int.le_refl _, (by decide : (0 : Int) ≤ 18446744073709551615)⟩⟩
   ·cases hkn : knowsM (kdI kd) (l.getD i default).k with
    | true => rfl
    | false => exact absurd ⟨h2, .inr hkn⟩ h
theorem not_bad {k : Int} {c : Hi.C} (hk : Sp.newK k = k) (h : knowsM k c.k = true) : ¬ badC k c := by
 unfold badC ini
 rw [hk]
 unfold Sp.applyM
 unfold knowsM at h
 dsimp only
 by_cases h1 : k = 1
 ·rw [if_pos h1]
  rw [if_pos h1] at h
  have h := of_decide_eq_true h
  unfold Sp.regM opC
  dsimp only
  rcases h with h | h | h <;> rw [h] <;> (repeat' split) <;> first | (simp; done) | (simp_all; done) | (simp_all; omega)
 ·rw [if_neg h1]
  rw [if_neg h1] at h
  by_cases h2 : k = 2
  ·rw [if_pos h2]
   rw [if_pos h2] at h
   have h := of_decide_eq_true h
   rw [Sp.map_pl]
   unfold Sp.mapP' opC
   dsimp only
   rcases h with h | h | h | h <;> rw [h] <;> (repeat' split) <;> simp_all
  ·rw [if_neg h2]
   rw [if_neg h2] at h
   by_cases h3 : k = 3
   ·rw [if_pos h3]
    rw [if_pos h3] at h
    have h := of_decide_eq_true h
    unfold Sp.queM opC
    dsimp only
    rcases h with h | h <;> rw [h] <;> (repeat' split) <;> simp_all
   ·rw [if_neg h3]
    rw [if_neg h3] at h
    have h := of_decide_eq_true h
    rw [if_pos h.1]
    unfold opC
    dsimp only
    rcases h.2 with h | h <;> rw [h] <;> (repeat' split) <;> simp_all
theorem newK_kd (kd : Int) : Sp.newK (kdI kd) = kdI kd ∧ kdI kd ≠ 0 := by
 have := kdM_rng kd
 unfold kdI Sp.newK
 rw [if_neg (by omega)]; omega
theorem exam_ok {kd : Int} {l : List Hi.C} (h : OpsOk (kdI kd) l) : examE (kdI kd) l = 0 := by
 have hk := newK_kd kd
 exact exam_0 (by omega) fun i hi => not_bad hk.1 (h i hi).1
theorem h0_ev : Hi.h0.ev = [] := rfl
theorem h0_cl : Hi.h0.cl = [] := rfl
theorem h0_era : Hi.h0.era = 0 := rfl
attribute [local irreducible] Hi.doH plH Hi.h0
set_option maxRecDepth 100000 in
set_option maxHeartbeats 4000000 in
theorem a18 (kd : Int) (l : List Hi.S) (n : Nat) (hn : n ≤ 1000) : ACalls Tryz.prog 7 [.p (eLot kd l), .p (.v (.int .i64 n))] [] (.tup [.loc 0 0, .p (Hi.hX (plH kd l n (min l.length 40)))]) [Hi.oH (plH kd l n (min l.length 40)) 1 2, .arr 2 ((plH kd l n (min l.length 40)).ev.map Hi.eE), .arr 11 ((plH kd l n (min l.length 40)).cl.map Hi.eC)] := by
 refine acalls_of (E := E) (fn := Tryz.f7) 65 [.tmp 4, .cell 5 28] rfl rfl rfl rfl (by decide) rfl rfl ?_
 repeat' (first
  | (with_reducible first | refine r_seq ?_ | refine r_block ?_ | refine fork_not ?_ | refine fork_and ?_ | refine fork_or ?_ | refine chk_ok (by kernel_rfl) ?_)
  | ((with_reducible first | refine fork_dec ?_ ?_ | refine fork_eq ?_ ?_ | refine fork_ne ?_ ?_ | refine fork_intro ?_ ?_) <;> intro h)
  | ((with_reducible show False); omega)
  | ((first | (with_reducible first | refine r_exit ?_ | refine r_skip ?_ | refine r_cond ?_ | refine r_region ?_ | refine r_ret ?_ | show VX _ _ _ _ _ _ _ | show vstep _ _ _ _ _ | show vskip _ _ _ | show withV _ _) | ((with_reducible show endA _ _ _ _ _ _ _); simp -implicitDefEqProofs only [endA]) | (with_reducible first | refine pick_viewG default (by first | omega | (simp only [LN]; omega)) (by first | omega | (simp only [LN]; omega)) ?_ | refine pick_own default (by first | omega | (simp only [LN]; omega)) ?_ | refine And.intro (by first | decide | omega | assumption | (simp only [LN]; omega)) ?_) | (with_reducible first | apply callK_lent | apply callF_lent | apply hideP_own) | ((with_reducible apply callA_go); (first | exact Hi.a10 | fail)) | ((with_reducible show pickE _ _ _); first | refine pickE_intro _ ⟨by omega, by rfl⟩ ?_ | refine pickE_intro _ (by rfl) ?_) | fail); try simp -dsimp -implicitDefEqProofs (maxSteps := 1000000) (disch := first | omega | (simp only [LN]; omega)) only [go_sem])
  | fail)
 refine r_loopA (α := Nat) [1, 2, 5, 6, 7] (fun i b => [(8, aI i)]) (fun i b => [(6, Hi.oH (plH kd l n i) b (b + 1)), (7, .var [.p (.view 11 ((plH kd l n i).cl.map Hi.rC)), .p (.v (.int .i64 (plH kd l n i).ev.length)), .p (.v (.int .i64 (plH kd l n i).era))])]) (fun i => [.arr 2 ((plH kd l n i).ev.map Hi.eE), .arr 11 ((plH kd l n i).cl.map Hi.eC)]) (fun i => i ≤ l.length ∧ i ≤ 40) (fun i => 40 - i) (0) ?h0_1 ?hs0_1 ?I_1 ?hI_1 ?round_1
 case hI_1 => intro x; (simp -dsimp -implicitDefEqProofs (maxSteps := 1000000) (disch := first | omega | (simp only [LN]; omega)) only [go_sem]) <;> exact rfl
 case hs0_1 => refine wk_auto ?_; (simp -dsimp -implicitDefEqProofs (maxSteps := 1000000) (disch := first | omega | (simp only [LN, pl_0, h0_ev, h0_cl, h0_era]; omega)) only [go_sem, pl_0, h0_ev, h0_cl, h0_era]) <;> (try omega)
 case h0_1 => omega
 case round_1 =>
  rintro i ⟨h1, h2⟩
  have hI := pl_inv kd l n i
  have hl := pl_len kd l n i
  have hw := Hi.wkd (l.getD i default).kd
  have hkr := kdM_rng (l.getD i default).kd
  have k7 := c7 kd l
  have k11 := c11 (kdI kd) (l.getD i default).k
  have kd11 := Hi.a11 (plH kd l n i) (l.getD i default) hI (by omega) (by omega) (by omega)
  by_cases hi : i < l.length ∧ i < 40
  ·by_cases hs : Hi.kdM (l.getD i default).kd < 2 ∧ ((n : Int) ≤ (plH kd l n i).cl.length ∨ knowsM (kdI kd) (l.getD i default).k = false)
   ·have e := pl_skip hs
    have hs1 := hs.1
    repeat' (first
     | (with_reducible first | refine r_seq ?_ | refine r_block ?_ | refine fork_not ?_ | refine fork_and ?_ | refine fork_or ?_ | refine chk_ok (by kernel_rfl) ?_)
     | ((with_reducible first | refine fork_dec ?_ ?_ | refine fork_eq ?_ ?_ | refine fork_ne ?_ ?_ | refine fork_intro ?_ ?_) <;> intro h <;> try (exfalso; first | omega | exact h rfl | (revert h; decide) | (cases h; done)))
     | ((with_reducible show False); omega)
     | ((first | (with_reducible first | refine r_exit ?_ | refine r_skip ?_ | refine r_cond ?_ | refine r_region ?_ | refine r_ret ?_ | show VX _ _ _ _ _ _ _ | show vstep _ _ _ _ _ | show vskip _ _ _ | show withV _ _) | ((with_reducible show endA _ _ _ _ _ _ _); simp -implicitDefEqProofs only [endA]) | (with_reducible first | refine pick_viewG default (by first | omega | (simp only [LN, hw]; omega)) (by first | omega | (simp only [LN, hw]; omega)) ?_ | refine pick_own default (by first | omega | (simp only [LN, hw]; omega)) ?_ | refine And.intro (by first | decide | omega | assumption | (simp only [LN, hw]; omega)) ?_) | ((with_reducible apply callK_pure); (first | exact k7 | exact k11 | fail)) | ((with_reducible apply callF_lend); (first | exact k7 | exact k11 | fail); rfl) | ((with_reducible apply callF_go); (first | exact k7 | exact k11 | fail)) | (with_reducible first | apply callK_lent | apply callF_lent | apply hideP_own) | ((with_reducible apply callA_go); (first | exact kd11 | fail)) | ((with_reducible show pickE _ _ _); first | refine pickE_intro _ ⟨by omega, by rfl⟩ ?_ | refine pickE_intro _ (by rfl) ?_) | fail); try simp -dsimp -implicitDefEqProofs (maxSteps := 1000000) (disch := first | omega | (simp only [LN, hw]; omega)) only [go_sem, hw])
     | fail)
    all_goals first
     | omega
     | (exfalso; rcases hs.2 with h9 | h9 <;> first | omega | (simp_all; done))
     | (refine loopQ_next (i + 1) ?_ ?_ ?_; (omega); (show _ < _; omega); (simp -dsimp -implicitDefEqProofs (maxSteps := 1000000) (disch := first | omega | (simp only [LN, e]; omega)) only [go_sem, e]; try trivial))
   ·have e := pl_do hs
    repeat' (first
     | (with_reducible first | refine r_seq ?_ | refine r_block ?_ | refine fork_not ?_ | refine fork_and ?_ | refine fork_or ?_ | refine chk_ok (by kernel_rfl) ?_)
     | ((with_reducible first | refine fork_dec ?_ ?_ | refine fork_eq ?_ ?_ | refine fork_ne ?_ ?_ | refine fork_intro ?_ ?_) <;> intro h <;> try (exfalso; first | omega | exact h rfl | (revert h; decide) | (cases h; done)))
     | ((with_reducible show False); omega)
     | ((first | (with_reducible first | refine r_exit ?_ | refine r_skip ?_ | refine r_cond ?_ | refine r_region ?_ | refine r_ret ?_ | show VX _ _ _ _ _ _ _ | show vstep _ _ _ _ _ | show vskip _ _ _ | show withV _ _) | ((with_reducible show endA _ _ _ _ _ _ _); simp -implicitDefEqProofs only [endA]) | (with_reducible first | refine pick_viewG default (by first | omega | (simp only [LN, hw]; omega)) (by first | omega | (simp only [LN, hw]; omega)) ?_ | refine pick_own default (by first | omega | (simp only [LN, hw]; omega)) ?_ | refine And.intro (by first | decide | omega | assumption | (simp only [LN, hw]; omega)) ?_) | ((with_reducible apply callK_pure); (first | exact k7 | exact k11 | fail)) | ((with_reducible apply callF_lend); (first | exact k7 | exact k11 | fail); rfl) | ((with_reducible apply callF_go); (first | exact k7 | exact k11 | fail)) | (with_reducible first | apply callK_lent | apply callF_lent | apply hideP_own) | ((with_reducible apply callA_go); (first | exact kd11 | fail)) | ((with_reducible show pickE _ _ _); first | refine pickE_intro _ ⟨by omega, by rfl⟩ ?_ | refine pickE_intro _ (by rfl) ?_) | fail); try simp -dsimp -implicitDefEqProofs (maxSteps := 1000000) (disch := first | omega | (simp only [LN, hw]; omega)) only [go_sem, hw])
     | fail)
    all_goals first
     | (exfalso; exact hs ⟨by omega, .inl (by omega)⟩)
     | (exfalso; exact hs ⟨by omega, .inr (by assumption)⟩)
     | omega
     | (refine loopQ_next (i + 1) ?_ ?_ ?_; (omega); (show _ < _; omega); (simp -dsimp -implicitDefEqProofs (maxSteps := 1000000) (disch := first | omega | (simp only [LN, e]; omega)) only [go_sem, e]; try trivial))
  ·have e : min l.length 40 = i := by omega
   repeat' (first
    | (with_reducible first | refine r_seq ?_ | refine r_block ?_ | refine fork_not ?_ | refine fork_and ?_ | refine fork_or ?_ | refine chk_ok (by kernel_rfl) ?_)
    | ((with_reducible first | refine fork_dec ?_ ?_ | refine fork_eq ?_ ?_ | refine fork_ne ?_ ?_ | refine fork_intro ?_ ?_) <;> intro h <;> try (exfalso; first | omega | exact h rfl | (revert h; decide) | (cases h; done)))
    | ((with_reducible show False); omega)
    | ((first | (with_reducible first | refine r_exit ?_ | refine r_skip ?_ | refine r_cond ?_ | refine r_region ?_ | refine r_ret ?_ | show VX _ _ _ _ _ _ _ | show vstep _ _ _ _ _ | show vskip _ _ _ | show withV _ _) | ((with_reducible show endA _ _ _ _ _ _ _); simp -implicitDefEqProofs only [endA]) | (with_reducible first | refine pick_viewG default (by first | omega | (simp only [LN, e]; omega)) (by first | omega | (simp only [LN, e]; omega)) ?_ | refine pick_own default (by first | omega | (simp only [LN, e]; omega)) ?_ | refine And.intro (by first | decide | omega | assumption | (simp only [LN, e]; omega)) ?_) | ((with_reducible show pickE _ _ _); first | refine pickE_intro _ ⟨by omega, by rfl⟩ ?_ | refine pickE_intro _ (by rfl) ?_) | fail); try simp -dsimp -implicitDefEqProofs (maxSteps := 1000000) (disch := first | omega | (simp only [LN, e]; omega)) only [go_sem, e])
    | fail)
   all_goals first | omega | rfl
end Go.Proofs.YtpcjeaaplidmaaaGreatDoor