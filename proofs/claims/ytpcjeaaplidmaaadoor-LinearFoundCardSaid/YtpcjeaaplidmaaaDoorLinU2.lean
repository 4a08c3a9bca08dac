/- Contracts of functions of this program, and the plain facts that they rest on. No conditions. -/
import Derived.Test.YtpcjeaaplidmaaaDoorLinR2
import Derived.Test.YtpcjeaaplidmaaaDoorLinK2
import Derived.Test.YtpcjeaaplidmaaaDoorLinL2
import Derived.Test.YtpcjeaaplidmaaaDoorLinZ2
set_option linter.unusedSimpArgs false
set_option linter.unusedVariables false
namespace Go.Proofs.YtpcjeaaplidmaaaDoor
open Go Go.Ab
attribute [local irreducible] callK callF loopQ vstep vskip pickE hideP
open Go.RowKit
set_option maxRecDepth 100000
attribute [local go_sem] eLot Hi.eC Hi.rC Hi.eE Hi.hc Hi.hP Hi.hX Hi.hW Hi.oH eI cS
/-! If Verify accepts an order, Check finds one. -/
def foO (l : List Hi.C) (ord : List Int) : Nat → List Int
  | 0 => []
  | i + 1 => if ord.getD i default < 0 ∨ (l.length : Int) ≤ ord.getD i default ∨ ord.getD i default ∈ foO l ord i then foO l ord i else foO l ord i ++ [ord.getD i default]
def foS (k : Int) (l : List Hi.C) (ord : List Int) : Nat → Sp.S
  | 0 => ini k
  | i + 1 => if ord.getD i default < 0 ∨ (l.length : Int) ≤ ord.getD i default ∨ ord.getD i default ∈ foO l ord i then foS k l ord i else (Sp.applyM (foS k l ord i) (opC (l.getD (ord.getD i default).toNat default))).1
theorem foO_0 (l : List Hi.C) (ord : List Int) : foO l ord 0 = [] := rfl
theorem foS_0 (k : Int) (l : List Hi.C) (ord : List Int) : foS k l ord 0 = ini k := rfl
theorem fo_no {k : Int} {l : List Hi.C} {ord : List Int} {i : Nat} (h : ord.getD i default < 0 ∨ (l.length : Int) ≤ ord.getD i default ∨ ord.getD i default ∈ foO l ord i) : foO l ord (i + 1) = foO l ord i ∧ foS k l ord (i + 1) = foS k l ord i := by
  rw [foO, foS, if_pos h, if_pos h]; exact ⟨rfl, rfl⟩
theorem fo_yes {k : Int} {l : List Hi.C} {ord : List Int} {i : Nat} (h : ¬ (ord.getD i default < 0 ∨ (l.length : Int) ≤ ord.getD i default ∨ ord.getD i default ∈ foO l ord i)) : foO l ord (i + 1) = foO l ord i ++ [ord.getD i default] ∧ foS k l ord (i + 1) = (Sp.applyM (foS k l ord i) (opC (l.getD (ord.getD i default).toNat default))).1 := by
  rw [foO, foS, if_neg h, if_neg h]; exact ⟨rfl, rfl⟩
theorem foO_len (l : List Hi.C) (ord : List Int) : ∀ i, (foO l ord i).length ≤ i
  | 0 => Nat.le_refl _
  | i + 1 => by
    have := foO_len l ord i
    rw [foO]; split
    · omega
    · simp; omega
theorem foS_ok {k : Int} {l : List Hi.C} (hk : Sp.newK k = k) (hro : ∀ i, i < l.length → RngO (opC (l.getD i default))) (ord : List Int) : ∀ i, OkS (foS k l ord i) i
  | 0 => ok_ini k hk
  | i + 1 => by
    have ih := foS_ok hk hro ord i
    rw [foS]
    split
    · exact ih.mono (Nat.le_succ i)
    · rename_i h
      exact ok_apply ih (hro _ (by omega))
def seenI (l : List Int) : Value → Bool
  | .int .i64 n => decide (n ∈ l)
  | _ => false
theorem seenI_s (l : List Int) (n : Int) : seenI l (.int .i64 n) = decide (n ∈ l) := rfl
theorem seenI_0 : seenI [] = fun _ => false := by
  funext v; unfold seenI; split <;> simp
theorem seenI_upd (l : List Int) (n : Int) : updF (seenI l) (.int .i64 n) true = seenI (l ++ [n]) := by
  funext v
  unfold updF
  by_cases h : v = .int .i64 n
  · subst h; simp [seenI]
  · simp only [beq_iff_eq, h, if_false]
    unfold seenI
    split
    · rename_i m
      have : m ≠ n := fun e => h (by rw [e])
      simp [this]
    · rfl
attribute [local irreducible] foO foS plH kdI seenI
set_option maxRecDepth 100000 in
set_option maxHeartbeats 4000000 in
theorem c4 (kd : Int) (l : List Hi.S) (ord : List Int) (most : Int) (hr : ∀ s, s ∈ l → RngS s) : PCalls Tryd.prog 4 [eLot kd l, .view 1 (ord.map eI), .v (.int .i64 most)] (.v (.bool true)) := by
  refine pcalls_facts ⟨_, rfl, rfl, by decide⟩ fun hf => ?_
  simp only [go_sem, big] at hf
  refine pcalls_of (E := E) (fn := Tryd.f4) 101 [.tmp 6] rfl rfl rfl rfl (by decide) rfl ?_
  have h1 := pl_calls kd l 7 (min l.length 40)
  have h2 := pl_ops kd l 7 hr (min l.length 40)
  have h3 := newK_kd kd
  have h4 := exam_ok h2
  have h5 := pl_len kd l 7 (min l.length 40)
  have k18 := a18 kd l 7 (by decide)
  have k7 := c7 kd l
  have hkr := kdM_rng kd
  have hkd : 1 ≤ kdI kd ∧ kdI kd ≤ 4 := by unfold kdI; omega
  generalize plH kd l 7 (min l.length 40) = x at *
  generalize kdI kd = k at *
  have hw : IntKind.u8.wrap k = k := by rw [IntKind.wrap_u8]; omega
  have hc0 : checkE k x.cl = 0 := by unfold checkE; rw [if_neg (fun h => h h4), if_neg (by omega)]
  have hro := fun i hi => (h2 i hi).2
  have k10 := o10 x (by omega)
  have k8 := c8S k
  repeat' (first
    | (with_reducible first | refine r_seq ?_ | refine r_block ?_ | refine fork_not ?_ | refine fork_and ?_ | refine fork_or ?_ | refine chk_ok (by kernel_rfl) ?_)
    | ((with_reducible first | refine fork_dec ?_ ?_ | refine fork_eq ?_ ?_ | refine fork_ne ?_ ?_ | refine fork_intro ?_ ?_) <;> intro h)
    | ((with_reducible show False); omega)
    | ((first | (with_reducible first | refine r_exit ?_ | refine r_skip ?_ | refine r_cond ?_ | refine r_region ?_ | show VX _ _ _ _ _ _ _ | show vstep _ _ _ _ _ | show vskip _ _ _ | show withV _ _) | ((with_reducible show endA _ _ _ _ _ _ _); simp -implicitDefEqProofs only [endA])); simp -dsimp -implicitDefEqProofs (maxSteps := 1000000) (disch := first | omega | (simp only [LN, hw, seenI_0]; omega)) only [go_sem, Int.reduceToNat, Int.reducePow, Nat.reducePow, Int.reduceAdd, Int.reduceMul, Int.reduceSub, Int.reduceNeg, Nat.reduceAdd, Nat.reduceMul, Nat.reduceSub, Nat.reduceEqDiff, Nat.reduceLT, Nat.reduceLeDiff, hw, seenI_0])
    | ((first | (with_reducible refine r_ret ?_) | (with_reducible refine pick_viewG default (by first | omega | (simp only [LN, hw, seenI_0]; omega)) (by first | omega | (simp only [LN, hw, seenI_0]; omega)) ?_) | (with_reducible refine pick_own default (by first | omega | (simp only [LN, hw, seenI_0]; omega)) ?_) | (with_reducible refine And.intro (by first | decide | omega | assumption | (simp only [LN, hw, seenI_0]; omega)) ?_) | ((with_reducible apply callK_pure); (first | exact c6 | exact k7 | exact k8 | fail)) | ((with_reducible apply callF_lend); (first | exact c6 | exact k7 | exact k8 | fail); rfl) | ((with_reducible apply callF_go); (first | exact c6 | exact k7 | exact k8 | fail)) | (with_reducible first | apply callK_lent | apply callF_lent | apply hideP_own) | ((with_reducible apply callA_go); (first | exact k18 | fail)) | ((with_reducible show pickE _ _ _); first | refine pickE_intro _ ⟨by omega, by rfl⟩ ?_ | refine pickE_intro _ (by rfl) ?_) | fail); try simp -dsimp -implicitDefEqProofs (maxSteps := 1000000) (disch := first | omega | (simp only [LN, hw, seenI_0]; omega)) only [go_sem, Int.reduceToNat, Int.reducePow, Nat.reducePow, Int.reduceAdd, Int.reduceMul, Int.reduceSub, Int.reduceNeg, Nat.reduceAdd, Nat.reduceMul, Nat.reduceSub, Nat.reduceEqDiff, Nat.reduceLT, Nat.reduceLeDiff, hw, seenI_0])
    | fail)
  refine r_loopA (α := Nat) [1, 7, 9, 10, 11] (fun i b => [(12, .sl b 1 0 (foO x.cl ord i).length), (13, aI i)]) (fun i b => [(10, .var (cS (foS k x.cl ord i))), (11, .mp (some .i64) (.b (seenI (foO x.cl ord i))))]) (fun i => [.arr 1 ((foO x.cl ord i).map eI)]) (fun i => i ≤ 12 ∧ i ≤ ord.length) (fun i => 12 - i) (0) ?h0_1 ?hs0_1 ?I_1 ?hI_1 ?round_1
  case hI_1 => intro x; (simp -dsimp -implicitDefEqProofs (maxSteps := 1000000) (disch := first | omega | (simp only [LN]; omega)) only [go_sem, Int.reduceToNat, Int.reducePow, Nat.reducePow, Int.reduceAdd, Int.reduceMul, Int.reduceSub, Int.reduceNeg, Nat.reduceAdd, Nat.reduceMul, Nat.reduceSub, Nat.reduceEqDiff, Nat.reduceLT, Nat.reduceLeDiff]) <;> exact rfl
  case hs0_1 => refine wk_auto ?_; (simp -dsimp -implicitDefEqProofs (maxSteps := 1000000) (disch := first | omega | (simp only [LN, foO_0, foS_0, seenI_0]; omega)) only [go_sem, Int.reduceToNat, Int.reducePow, Nat.reducePow, Int.reduceAdd, Int.reduceMul, Int.reduceSub, Int.reduceNeg, Nat.reduceAdd, Nat.reduceMul, Nat.reduceSub, Nat.reduceEqDiff, Nat.reduceLT, Nat.reduceLeDiff, foO_0, foS_0, seenI_0]) <;> (try omega)
  case h0_1 => omega
  case round_1 =>
    rintro i ⟨hi, hi2⟩
    have hok := foS_ok h3.1 hro ord i
    have g1 := hok.inv.ps
    have g2 := hok.inv.vs
    have hl := foO_len x.cl ord i
    by_cases hlt : i < ord.length ∧ i < 12
    · by_cases hs : ord.getD i default < 0 ∨ (x.cl.length : Int) ≤ ord.getD i default ∨ ord.getD i default ∈ foO x.cl ord i
      · have e := fo_no (k := k) hs
        repeat' (first
          | (with_reducible first | refine r_seq ?_ | refine r_block ?_ | refine fork_not ?_ | refine fork_and ?_ | refine fork_or ?_ | refine chk_ok (by kernel_rfl) ?_)
          | ((with_reducible first | refine fork_dec ?_ ?_ | refine fork_eq ?_ ?_ | refine fork_ne ?_ ?_ | refine fork_intro ?_ ?_) <;> intro h <;> try (exfalso; first | omega | exact h rfl | (revert h; decide) | (cases h; done)))
          | ((with_reducible show False); omega)
          | ((first | (with_reducible first | refine r_exit ?_ | refine r_skip ?_ | refine r_cond ?_ | refine r_region ?_ | show VX _ _ _ _ _ _ _ | show vstep _ _ _ _ _ | show vskip _ _ _ | show withV _ _) | ((with_reducible show endA _ _ _ _ _ _ _); simp -implicitDefEqProofs only [endA])); simp -dsimp -implicitDefEqProofs (maxSteps := 1000000) (disch := first | omega | (simp only [LN, seenI_s]; omega)) only [go_sem, Int.reduceToNat, Int.reducePow, Nat.reducePow, Int.reduceAdd, Int.reduceMul, Int.reduceSub, Int.reduceNeg, Nat.reduceAdd, Nat.reduceMul, Nat.reduceSub, Nat.reduceEqDiff, Nat.reduceLT, Nat.reduceLeDiff, seenI_s])
          | ((first | (with_reducible refine r_ret ?_) | (with_reducible refine pick_viewG default (by first | omega | (simp only [LN, seenI_s]; omega)) (by first | omega | (simp only [LN, seenI_s]; omega)) ?_) | (with_reducible refine pick_own default (by first | omega | (simp only [LN, seenI_s]; omega)) ?_) | (with_reducible refine And.intro (by first | decide | omega | assumption | (simp only [LN, seenI_s]; omega)) ?_) | (with_reducible first | apply callK_lent | apply callF_lent | apply hideP_own) | ((with_reducible apply callA_go); (first | exact k10 | fail)) | ((with_reducible show pickE _ _ _); first | refine pickE_intro _ ⟨by omega, by rfl⟩ ?_ | refine pickE_intro _ (by rfl) ?_) | fail); try simp -dsimp -implicitDefEqProofs (maxSteps := 1000000) (disch := first | omega | (simp only [LN, seenI_s]; omega)) only [go_sem, Int.reduceToNat, Int.reducePow, Nat.reducePow, Int.reduceAdd, Int.reduceMul, Int.reduceSub, Int.reduceNeg, Nat.reduceAdd, Nat.reduceMul, Nat.reduceSub, Nat.reduceEqDiff, Nat.reduceLT, Nat.reduceLeDiff, seenI_s])
          | fail)
        all_goals first
          | omega
          | (exfalso; rcases hs with h9 | h9 | h9 <;> first | omega | (exact absurd h9 (by assumption)))
          | (refine loopQ_next (i + 1) ?_ ?_ ?_; (omega); (show _ < _; omega); (simp -dsimp -implicitDefEqProofs (maxSteps := 1000000) (disch := first | omega | (simp only [LN, e.1, e.2]; omega)) only [go_sem, Int.reduceToNat, Int.reducePow, Nat.reducePow, Int.reduceAdd, Int.reduceMul, Int.reduceSub, Int.reduceNeg, Nat.reduceAdd, Nat.reduceMul, Nat.reduceSub, Nat.reduceEqDiff, Nat.reduceLT, Nat.reduceLeDiff, e.1, e.2]; try trivial))
          | trace_state
      · have e := fo_yes (k := k) hs
        obtain ⟨n, hn⟩ := Int.eq_ofNat_of_zero_le (show 0 ≤ ord.getD i default by omega)
        have hnl : n < x.cl.length := by omega
        have hnm : ¬ (n : Int) ∈ foO x.cl ord i := fun h => hs (.inr (.inr (by rw [hn]; exact h)))
        have k12 := Sp.c12 (foS k x.cl ord i) (opC (x.cl.getD n default)) (Sp.sorted_pl.2 hok.inv.srt) (by omega) (by omega)
        rw [hn, Int.toNat_natCast] at e
        unfold opC at k12 e
        repeat' (first
          | (with_reducible first | refine r_seq ?_ | refine r_block ?_ | refine fork_not ?_ | refine fork_and ?_ | refine fork_or ?_ | refine chk_ok (by kernel_rfl) ?_)
          | ((with_reducible first | refine fork_dec ?_ ?_ | refine fork_eq ?_ ?_ | refine fork_ne ?_ ?_ | refine fork_intro ?_ ?_) <;> intro h <;> try (exfalso; first | omega | exact h rfl | (revert h; decide) | (cases h; done)))
          | ((with_reducible show False); omega)
          | ((first | (with_reducible first | refine r_exit ?_ | refine r_skip ?_ | refine r_cond ?_ | refine r_region ?_ | show VX _ _ _ _ _ _ _ | show vstep _ _ _ _ _ | show vskip _ _ _ | show withV _ _) | ((with_reducible show endA _ _ _ _ _ _ _); simp -implicitDefEqProofs only [endA])); simp -dsimp -implicitDefEqProofs (maxSteps := 1000000) (disch := first | omega | (simp only [LN, seenI_s, seenI_upd, hn]; omega)) only [go_sem, Int.reduceToNat, Int.reducePow, Nat.reducePow, Int.reduceAdd, Int.reduceMul, Int.reduceSub, Int.reduceNeg, Nat.reduceAdd, Nat.reduceMul, Nat.reduceSub, Nat.reduceEqDiff, Nat.reduceLT, Nat.reduceLeDiff, seenI_s, seenI_upd, hn])
          | ((first | (with_reducible refine r_ret ?_) | (with_reducible refine pick_viewG default (by first | omega | (simp only [LN, seenI_s, seenI_upd, hn]; omega)) (by first | omega | (simp only [LN, seenI_s, seenI_upd, hn]; omega)) ?_) | (with_reducible refine pick_own default (by first | omega | (simp only [LN, seenI_s, seenI_upd, hn]; omega)) ?_) | (with_reducible refine And.intro (by first | decide | omega | assumption | (simp only [LN, seenI_s, seenI_upd, hn]; omega)) ?_) | ((with_reducible apply callK_pure); (exact k12)) | ((with_reducible apply callF_lend); (exact k12); rfl) | ((with_reducible apply callF_go); (exact k12)) | (with_reducible first | apply callK_lent | apply callF_lent | apply hideP_own) | ((with_reducible apply callA_go); (first | exact k10 | fail)) | ((with_reducible show pickE _ _ _); first | refine pickE_intro _ ⟨by omega, by rfl⟩ ?_ | refine pickE_intro _ (by rfl) ?_) | fail); try simp -dsimp -implicitDefEqProofs (maxSteps := 1000000) (disch := first | omega | (simp only [LN, seenI_s, seenI_upd, hn]; omega)) only [go_sem, Int.reduceToNat, Int.reducePow, Nat.reducePow, Int.reduceAdd, Int.reduceMul, Int.reduceSub, Int.reduceNeg, Nat.reduceAdd, Nat.reduceMul, Nat.reduceSub, Nat.reduceEqDiff, Nat.reduceLT, Nat.reduceLeDiff, seenI_s, seenI_upd, hn])
          | fail)
        all_goals first
          | omega
          | (exact absurd (by assumption) hnm)
          | (refine loopQ_next (i + 1) ?_ ?_ ?_; (omega); (show _ < _; omega); (simp -dsimp -implicitDefEqProofs (maxSteps := 1000000) (disch := first | omega | (simp only [LN, e.1, e.2, List.map_append]; omega)) only [go_sem, Int.reduceToNat, Int.reducePow, Nat.reducePow, Int.reduceAdd, Int.reduceMul, Int.reduceSub, Int.reduceNeg, Nat.reduceAdd, Nat.reduceMul, Nat.reduceSub, Nat.reduceEqDiff, Nat.reduceLT, Nat.reduceLeDiff, e.1, e.2, List.map_append]; try trivial))
          | trace_state
    · repeat' ((fail_if_success (with_reducible show awp _ _ (Code.region 16 _ _) _ _)); first
        | (with_reducible first | refine r_seq ?_ | refine r_block ?_ | refine fork_not ?_ | refine fork_and ?_ | refine fork_or ?_ | refine chk_ok (by kernel_rfl) ?_)
        | ((with_reducible first | refine fork_dec ?_ ?_ | refine fork_eq ?_ ?_ | refine fork_ne ?_ ?_ | refine fork_intro ?_ ?_) <;> intro h <;> try (exfalso; first | omega | exact h rfl | (revert h; decide) | (cases h; done)))
        | ((with_reducible show False); omega)
        | ((first | (with_reducible first | refine r_exit ?_ | refine r_skip ?_ | refine r_cond ?_ | refine r_region ?_ | show VX _ _ _ _ _ _ _ | show vstep _ _ _ _ _ | show vskip _ _ _ | show withV _ _) | ((with_reducible show endA _ _ _ _ _ _ _); simp -implicitDefEqProofs only [endA])); simp -dsimp -implicitDefEqProofs (maxSteps := 1000000) (disch := first | omega | (simp only [LN]; omega)) only [go_sem, Int.reduceToNat, Int.reducePow, Nat.reducePow, Int.reduceAdd, Int.reduceMul, Int.reduceSub, Int.reduceNeg, Nat.reduceAdd, Nat.reduceMul, Nat.reduceSub, Nat.reduceEqDiff, Nat.reduceLT, Nat.reduceLeDiff])
        | ((first | (with_reducible refine r_ret ?_) | (with_reducible refine pick_viewG default (by first | omega | (simp only [LN]; omega)) (by first | omega | (simp only [LN]; omega)) ?_) | (with_reducible refine pick_own default (by first | omega | (simp only [LN]; omega)) ?_) | (with_reducible refine And.intro (by first | decide | omega | assumption | (simp only [LN]; omega)) ?_) | ((with_reducible show pickE _ _ _); first | refine pickE_intro _ ⟨by omega, by rfl⟩ ?_ | refine pickE_intro _ (by rfl) ?_) | fail); try simp -dsimp -implicitDefEqProofs (maxSteps := 1000000) (disch := first | omega | (simp only [LN]; omega)) only [go_sem, Int.reduceToNat, Int.reducePow, Nat.reducePow, Int.reduceAdd, Int.reduceMul, Int.reduceSub, Int.reduceNeg, Nat.reduceAdd, Nat.reduceMul, Nat.reduceSub, Nat.reduceEqDiff, Nat.reduceLT, Nat.reduceLeDiff])
        | fail)
      all_goals try omega
      all_goals
        refine r_frz [7, 9, 10] (fun b => [(12, .p (.view 1 ((foO x.cl ord i).map eI)))]) fun I hI => ?_
        simp -dsimp -implicitDefEqProofs (maxSteps := 1000000) (disch := first | omega | (simp only [LN]; omega)) only [go_sem, Int.reduceToNat, Int.reducePow, Nat.reducePow, Int.reduceAdd, Int.reduceMul, Int.reduceSub, Int.reduceNeg, Nat.reduceAdd, Nat.reduceMul, Nat.reduceSub, Nat.reduceEqDiff, Nat.reduceLT, Nat.reduceLeDiff] at hI
        subst hI
        refine And.intro ?_ ?_
        · (simp -dsimp -implicitDefEqProofs (maxSteps := 1000000) (disch := first | omega | (simp only [LN]; omega)) only [go_sem, Int.reduceToNat, Int.reducePow, Nat.reducePow, Int.reduceAdd, Int.reduceMul, Int.reduceSub, Int.reduceNeg, Nat.reduceAdd, Nat.reduceMul, Nat.reduceSub, Nat.reduceEqDiff, Nat.reduceLT, Nat.reduceLeDiff]) <;> (try omega)
        have k13 := Sp.c13 (foS k x.cl ord i) (by omega) (by omega)
        have k19 := o19 k x (foO x.cl ord i) (Sp.contM (foS k x.cl ord i)) (by omega) (by omega) h4 hro
        have k16 := o16 k x (Sp.contM (foS k x.cl ord i)) hc0 hro
        have hf := found (o := foO x.cl ord i) (fin := Sp.contM (foS k x.cl ord i)) (k := k) (l := x.cl) (by omega) hro
        generalize Sp.contM (foS k x.cl ord i) = fin at *
        generalize foO x.cl ord i = o at *
        by_cases hv : verM k x.cl o fin = 0
        · rw [hv] at k19
          rw [hf hv, if_pos rfl] at k16
          repeat' (first
            | (with_reducible first | refine r_seq ?_ | refine r_block ?_ | refine fork_not ?_ | refine fork_and ?_ | refine fork_or ?_ | refine chk_ok (by kernel_rfl) ?_)
            | ((with_reducible first | refine fork_dec ?_ ?_ | refine fork_eq ?_ ?_ | refine fork_ne ?_ ?_ | refine fork_intro ?_ ?_) <;> intro h <;> try (exfalso; first | omega | exact h rfl | (revert h; decide) | (cases h; done)))
            | ((with_reducible show False); omega)
            | ((first | (with_reducible first | refine r_exit ?_ | refine r_skip ?_ | refine r_cond ?_ | refine r_region ?_ | show VX _ _ _ _ _ _ _ | show vstep _ _ _ _ _ | show vskip _ _ _ | show withV _ _) | ((with_reducible show endA _ _ _ _ _ _ _); simp -implicitDefEqProofs only [endA])); simp -dsimp -implicitDefEqProofs (maxSteps := 1000000) (disch := first | omega | (simp only [LN]; omega)) only [go_sem, Int.reduceToNat, Int.reducePow, Nat.reducePow, Int.reduceAdd, Int.reduceMul, Int.reduceSub, Int.reduceNeg, Nat.reduceAdd, Nat.reduceMul, Nat.reduceSub, Nat.reduceEqDiff, Nat.reduceLT, Nat.reduceLeDiff])
            | ((first | (with_reducible refine r_ret ?_) | (with_reducible refine pick_viewG default (by first | omega | (simp only [LN]; omega)) (by first | omega | (simp only [LN]; omega)) ?_) | (with_reducible refine pick_own default (by first | omega | (simp only [LN]; omega)) ?_) | (with_reducible refine And.intro (by first | decide | omega | assumption | (simp only [LN]; omega)) ?_) | ((with_reducible apply callK_pure); (exact k13)) | ((with_reducible apply callF_lend); (exact k13); rfl) | ((with_reducible apply callF_go); (exact k13)) | (with_reducible first | apply callK_lent | apply callF_lent | apply hideP_own) | ((with_reducible apply callA_go); (first | exact k19 | exact k16 | fail)) | ((with_reducible show pickE _ _ _); first | refine pickE_intro _ ⟨by omega, by rfl⟩ ?_ | refine pickE_intro _ (by rfl) ?_) | fail); try simp -dsimp -implicitDefEqProofs (maxSteps := 1000000) (disch := first | omega | (simp only [LN]; omega)) only [go_sem, Int.reduceToNat, Int.reducePow, Nat.reducePow, Int.reduceAdd, Int.reduceMul, Int.reduceSub, Int.reduceNeg, Nat.reduceAdd, Nat.reduceMul, Nat.reduceSub, Nat.reduceEqDiff, Nat.reduceLT, Nat.reduceLeDiff])
            | fail)
          all_goals first | rfl | omega | trace_state
        · generalize verM k x.cl o fin = V at *
          repeat' (first
            | (with_reducible first | refine r_seq ?_ | refine r_block ?_ | refine fork_not ?_ | refine fork_and ?_ | refine fork_or ?_ | refine chk_ok (by kernel_rfl) ?_)
            | ((with_reducible first | refine fork_dec ?_ ?_ | refine fork_eq ?_ ?_ | refine fork_ne ?_ ?_ | refine fork_intro ?_ ?_) <;> intro h <;> try (exfalso; first | omega | exact h rfl | (revert h; decide) | (cases h; done)))
            | ((with_reducible show False); omega)
            | ((first | (with_reducible first | refine r_exit ?_ | refine r_skip ?_ | refine r_cond ?_ | refine r_region ?_ | show VX _ _ _ _ _ _ _ | show vstep _ _ _ _ _ | show vskip _ _ _ | show withV _ _) | ((with_reducible show endA _ _ _ _ _ _ _); simp -implicitDefEqProofs only [endA])); simp -dsimp -implicitDefEqProofs (maxSteps := 1000000) (disch := first | omega | (simp only [LN]; omega)) only [go_sem, Int.reduceToNat, Int.reducePow, Nat.reducePow, Int.reduceAdd, Int.reduceMul, Int.reduceSub, Int.reduceNeg, Nat.reduceAdd, Nat.reduceMul, Nat.reduceSub, Nat.reduceEqDiff, Nat.reduceLT, Nat.reduceLeDiff])
            | ((first | (with_reducible refine r_ret ?_) | (with_reducible refine pick_viewG default (by first | omega | (simp only [LN]; omega)) (by first | omega | (simp only [LN]; omega)) ?_) | (with_reducible refine pick_own default (by first | omega | (simp only [LN]; omega)) ?_) | (with_reducible refine And.intro (by first | decide | omega | assumption | (simp only [LN]; omega)) ?_) | ((with_reducible apply callK_pure); (exact k13)) | ((with_reducible apply callF_lend); (exact k13); rfl) | ((with_reducible apply callF_go); (exact k13)) | (with_reducible first | apply callK_lent | apply callF_lent | apply hideP_own) | ((with_reducible apply callA_go); (first | exact k19 | exact k16 | fail)) | ((with_reducible show pickE _ _ _); first | refine pickE_intro _ ⟨by omega, by rfl⟩ ?_ | refine pickE_intro _ (by rfl) ?_) | fail); try simp -dsimp -implicitDefEqProofs (maxSteps := 1000000) (disch := first | omega | (simp only [LN]; omega)) only [go_sem, Int.reduceToNat, Int.reducePow, Nat.reducePow, Int.reduceAdd, Int.reduceMul, Int.reduceSub, Int.reduceNeg, Nat.reduceAdd, Nat.reduceMul, Nat.reduceSub, Nat.reduceEqDiff, Nat.reduceLT, Nat.reduceLeDiff])
            | fail)
          all_goals first | rfl | omega | trace_state
end Go.Proofs.YtpcjeaaplidmaaaDoor
