/- Contracts of functions of this program, and the plain facts that they rest on. No conditions. -/
import Derived.Test.YtpcjeaaplidmaaaGreatDoorLinV4Q
import Derived.Test.YtpcjeaaplidmaaaGreatDoorLinV6Q
set_option linter.unusedSimpArgs false
set_option linter.unusedVariables false
namespace Go.Proofs.YtpcjeaaplidmaaaGreatDoor
open Go Go.Ab
attribute [local irreducible] callK callF loopQ vstep vskip pickE hideP
open Go.RowKit
set_option maxRecDepth 100000
attribute [local go_sem] eLot Hi.eC Hi.rC Hi.eE Hi.hc Hi.hP Hi.hX Hi.hW Hi.oH eI eB eL
theorem cmpM_0 {a b : Int} : Sp.cmpM a b = 0 ↔ a = b := by unfold Sp.cmpM; split <;> (try split) <;> omega
theorem cmpP_1 {p q : Int × Int} (h : ¬ p.1 = q.1) : cmpP p q = Sp.cmpM p.1 q.1 ∧ cmpP p q ≠ 0 := by
 have : Sp.cmpM p.1 q.1 ≠ 0 := fun e => h (cmpM_0.1 e)
 unfold cmpP orM; rw [if_pos this]; exact ⟨rfl, this⟩
theorem cmpP_2 {p q : Int × Int} (h : p.1 = q.1) : cmpP p q = Sp.cmpM p.2 q.2 := by
 unfold cmpP orM; rw [if_neg (fun hh => hh (cmpM_0.2 h))]
theorem cmpM_lt {a b : Int} : Sp.cmpM a b < 0 ↔ a < b := by unfold Sp.cmpM; split <;> (try split) <;> omega
set_option maxRecDepth 100000 in
set_option maxHeartbeats 4000000 in
theorem r30 (a b : LP) : PCalls Tryz.prog 30 [.view 2 (a.map Sp.eP), .view 2 (b.map Sp.eP)] (.v (.bool (decide (cmpL a b < 0)))) := by
 refine pcalls_facts ⟨_, rfl, rfl, by decide⟩ fun hf => ?_
 simp only [go_sem, big] at hf
 refine pcalls_of (E := E) (fn := Tryz.f30) 67 [.tmp 4] rfl rfl rfl rfl (by decide) rfl ?_
 repeat' (first
  | (with_reducible first | refine r_seq ?_ | refine r_block ?_ | refine fork_not ?_ | refine fork_and ?_ | refine fork_or ?_ | refine chk_ok (by kernel_rfl) ?_)
  | ((with_reducible first | refine fork_dec ?_ ?_ | refine fork_eq ?_ ?_ | refine fork_ne ?_ ?_ | refine fork_intro ?_ ?_) <;> intro h)
  | ((with_reducible show False); omega)
  | ((first | (with_reducible first | refine r_exit ?_ | refine r_skip ?_ | refine r_cond ?_ | refine r_region ?_ | refine r_ret ?_ | show VX _ _ _ _ _ _ _ | show vstep _ _ _ _ _ | show vskip _ _ _ | show withV _ _) | ((with_reducible show endA _ _ _ _ _ _ _); simp -implicitDefEqProofs only [endA]) | (with_reducible first | refine pick_viewG default (by first | omega | (simp only [LN]; omega)) (by first | omega | (simp only [LN]; omega)) ?_ | refine pick_own default (by first | omega | (simp only [LN]; omega)) ?_ | refine And.intro (by first | decide | omega | assumption | (simp only [LN]; omega)) ?_) | ((with_reducible show pickE _ _ _); first | refine pickE_intro _ ⟨by omega, by rfl⟩ ?_ | refine pickE_intro _ (by rfl) ?_) | fail); try simp -dsimp -implicitDefEqProofs (maxSteps := 1000000) (disch := first | omega | (simp only [LN]; omega)) only [go_sem])
  | fail)
 refine r_loopA (α := Nat) [0, 1] (fun i b => [(5, aI i)]) (fun i b => []) (fun i => []) (fun i => i ≤ a.length ∧ i ≤ b.length ∧ cmpL (a.drop i) (b.drop i) = cmpL a b) (fun i => a.length - i) (0) ?h0_1 ?hs0_1 ?I_1 ?hI_1 ?round_1
 case hI_1 => intro x; (simp -dsimp -implicitDefEqProofs (maxSteps := 1000000) (disch := first | omega | (simp only [LN]; omega)) only [go_sem]) <;> exact rfl
 case hs0_1 => refine wk_auto ?_; (simp -dsimp -implicitDefEqProofs (maxSteps := 1000000) (disch := first | omega | (simp only [LN]; omega)) only [go_sem]) <;> (try omega)
 case h0_1 => exact ⟨Nat.zero_le _, Nat.zero_le _, rfl⟩
 case round_1 =>
  rintro i ⟨h1, h2, h3⟩
  by_cases hi : i < a.length
  ·by_cases hj : i < b.length
   ·rw [cmpL_step hi hj] at h3
    by_cases e1 : (a.getD i default).1 = (b.getD i default).1
    ·rw [cmpP_2 e1] at h3
     by_cases e2 : (a.getD i default).2 = (b.getD i default).2
     ·rw [if_neg (fun h => h (cmpM_0.2 e2))] at h3
      repeat' (first
       | (with_reducible first | refine r_seq ?_ | refine r_block ?_ | refine fork_not ?_ | refine fork_and ?_ | refine fork_or ?_ | refine chk_ok (by kernel_rfl) ?_)
       | ((with_reducible first | refine fork_dec ?_ ?_ | refine fork_eq ?_ ?_ | refine fork_ne ?_ ?_ | refine fork_intro ?_ ?_) <;> intro h <;> try (exfalso; first | omega | exact h rfl | (revert h; decide) | (cases h; done)))
       | ((with_reducible show False); omega)
       | ((first | (with_reducible first | refine r_exit ?_ | refine r_skip ?_ | refine r_cond ?_ | refine r_region ?_ | refine r_ret ?_ | show VX _ _ _ _ _ _ _ | show vstep _ _ _ _ _ | show vskip _ _ _ | show withV _ _) | ((with_reducible show endA _ _ _ _ _ _ _); simp -implicitDefEqProofs only [endA]) | (with_reducible first | refine pick_viewG default (by first | omega | (simp only [LN, e1, e2]; omega)) (by first | omega | (simp only [LN, e1, e2]; omega)) ?_ | refine pick_own default (by first | omega | (simp only [LN, e1, e2]; omega)) ?_ | refine And.intro (by first | decide | omega | assumption | (simp only [LN, e1, e2]; omega)) ?_) | ((with_reducible show pickE _ _ _); first | refine pickE_intro _ ⟨by omega, by rfl⟩ ?_ | refine pickE_intro _ (by rfl) ?_) | fail); try simp -dsimp -implicitDefEqProofs (maxSteps := 1000000) (disch := first | omega | (simp only [LN, e1, e2]; omega)) only [go_sem, e1, e2])
       | fail)
      all_goals first | omega | (refine loopQ_next (i + 1) ?_ ?_ ?_; (exact ⟨by omega, by omega, h3⟩); (show _ < _; omega); (simp -dsimp -implicitDefEqProofs (maxSteps := 1000000) (disch := first | omega | (simp only [LN]; omega)) only [go_sem]; try trivial))
     ·rw [if_pos (fun h => e2 (cmpM_0.1 h))] at h3
      have h4 : decide (cmpL a b < 0) = decide ((a.getD i default).2 < (b.getD i default).2) := by rw [← h3]; exact decide_eq_decide.2 cmpM_lt
      repeat' (first
       | (with_reducible first | refine r_seq ?_ | refine r_block ?_ | refine fork_not ?_ | refine fork_and ?_ | refine fork_or ?_ | refine chk_ok (by kernel_rfl) ?_)
       | ((with_reducible first | refine fork_dec ?_ ?_ | refine fork_eq ?_ ?_ | refine fork_ne ?_ ?_ | refine fork_intro ?_ ?_) <;> intro h <;> try (exfalso; first | omega | exact h rfl | (revert h; decide) | (cases h; done)))
       | ((with_reducible show False); omega)
       | ((first | (with_reducible first | refine r_exit ?_ | refine r_skip ?_ | refine r_cond ?_ | refine r_region ?_ | refine r_ret ?_ | show VX _ _ _ _ _ _ _ | show vstep _ _ _ _ _ | show vskip _ _ _ | show withV _ _) | ((with_reducible show endA _ _ _ _ _ _ _); simp -implicitDefEqProofs only [endA]) | (with_reducible first | refine pick_viewG default (by first | omega | (simp only [LN, e1]; omega)) (by first | omega | (simp only [LN, e1]; omega)) ?_ | refine pick_own default (by first | omega | (simp only [LN, e1]; omega)) ?_ | refine And.intro (by first | decide | omega | assumption | (simp only [LN, e1]; omega)) ?_) | ((with_reducible show pickE _ _ _); first | refine pickE_intro _ ⟨by omega, by rfl⟩ ?_ | refine pickE_intro _ (by rfl) ?_) | fail); try simp -dsimp -implicitDefEqProofs (maxSteps := 1000000) (disch := first | omega | (simp only [LN, e1]; omega)) only [go_sem, e1])
       | fail)
      all_goals first | omega | (rw [h4]; done)
    ·rw [if_pos (cmpP_1 e1).2, (cmpP_1 e1).1] at h3
     have h4 : decide (cmpL a b < 0) = decide ((a.getD i default).1 < (b.getD i default).1) := by rw [← h3]; exact decide_eq_decide.2 cmpM_lt
     repeat' (first
      | (with_reducible first | refine r_seq ?_ | refine r_block ?_ | refine fork_not ?_ | refine fork_and ?_ | refine fork_or ?_ | refine chk_ok (by kernel_rfl) ?_)
      | ((with_reducible first | refine fork_dec ?_ ?_ | refine fork_eq ?_ ?_ | refine fork_ne ?_ ?_ | refine fork_intro ?_ ?_) <;> intro h <;> try (exfalso; first | omega | exact h rfl | (revert h; decide) | (cases h; done)))
      | ((with_reducible show False); omega)
      | ((first | (with_reducible first | refine r_exit ?_ | refine r_skip ?_ | refine r_cond ?_ | refine r_region ?_ | refine r_ret ?_ | show VX _ _ _ _ _ _ _ | show vstep _ _ _ _ _ | show vskip _ _ _ | show withV _ _) | ((with_reducible show endA _ _ _ _ _ _ _); simp -implicitDefEqProofs only [endA]) | (with_reducible first | refine pick_viewG default (by first | omega | (simp only [LN]; omega)) (by first | omega | (simp only [LN]; omega)) ?_ | refine pick_own default (by first | omega | (simp only [LN]; omega)) ?_ | refine And.intro (by first | decide | omega | assumption | (simp only [LN]; omega)) ?_) | ((with_reducible show pickE _ _ _); first | refine pickE_intro _ ⟨by omega, by rfl⟩ ?_ | refine pickE_intro _ (by rfl) ?_) | fail); try simp -dsimp -implicitDefEqProofs (maxSteps := 1000000) (disch := first | omega | (simp only [LN]; omega)) only [go_sem])
      | fail)
     all_goals first | omega | (rw [h4]; done)
   ·rw [cmpL_r hi (by omega)] at h3
    have h4 : decide (cmpL a b < 0) = false := by rw [← h3]; rfl
    repeat' (first
     | (with_reducible first | refine r_seq ?_ | refine r_block ?_ | refine fork_not ?_ | refine fork_and ?_ | refine fork_or ?_ | refine chk_ok (by kernel_rfl) ?_)
     | ((with_reducible first | refine fork_dec ?_ ?_ | refine fork_eq ?_ ?_ | refine fork_ne ?_ ?_ | refine fork_intro ?_ ?_) <;> intro h <;> try (exfalso; first | omega | exact h rfl | (revert h; decide) | (cases h; done)))
     | ((with_reducible show False); omega)
     | ((first | (with_reducible first | refine r_exit ?_ | refine r_skip ?_ | refine r_cond ?_ | refine r_region ?_ | refine r_ret ?_ | show VX _ _ _ _ _ _ _ | show vstep _ _ _ _ _ | show vskip _ _ _ | show withV _ _) | ((with_reducible show endA _ _ _ _ _ _ _); simp -implicitDefEqProofs only [endA]) | (with_reducible first | refine pick_viewG default (by first | omega | (simp only [LN]; omega)) (by first | omega | (simp only [LN]; omega)) ?_ | refine pick_own default (by first | omega | (simp only [LN]; omega)) ?_ | refine And.intro (by first | decide | omega | assumption | (simp only [LN]; omega)) ?_) | ((with_reducible show pickE _ _ _); first | refine pickE_intro _ ⟨by omega, by rfl⟩ ?_ | refine pickE_intro _ (by rfl) ?_) | fail); try simp -dsimp -implicitDefEqProofs (maxSteps := 1000000) (disch := first | omega | (simp only [LN]; omega)) only [go_sem])
     | fail)
    all_goals first | omega | (rw [h4]; exact congrArg Value.bool (decide_eq_false (by omega)))
  ·rw [cmpL_l (by omega)] at h3
   by_cases hj : i < b.length
   ·rw [if_pos hj] at h3
    have h4 : decide (cmpL a b < 0) = true := by rw [← h3]; rfl
    repeat' (first
     | (with_reducible first | refine r_seq ?_ | refine r_block ?_ | refine fork_not ?_ | refine fork_and ?_ | refine fork_or ?_ | refine chk_ok (by kernel_rfl) ?_)
     | ((with_reducible first | refine fork_dec ?_ ?_ | refine fork_eq ?_ ?_ | refine fork_ne ?_ ?_ | refine fork_intro ?_ ?_) <;> intro h <;> try (exfalso; first | omega | exact h rfl | (revert h; decide) | (cases h; done)))
     | ((with_reducible show False); omega)
     | ((first | (with_reducible first | refine r_exit ?_ | refine r_skip ?_ | refine r_cond ?_ | refine r_region ?_ | refine r_ret ?_ | show VX _ _ _ _ _ _ _ | show vstep _ _ _ _ _ | show vskip _ _ _ | show withV _ _) | ((with_reducible show endA _ _ _ _ _ _ _); simp -implicitDefEqProofs only [endA]) | (with_reducible first | refine pick_viewG default (by first | omega | (simp only [LN]; omega)) (by first | omega | (simp only [LN]; omega)) ?_ | refine pick_own default (by first | omega | (simp only [LN]; omega)) ?_ | refine And.intro (by first | decide | omega | assumption | (simp only [LN]; omega)) ?_) | ((with_reducible show pickE _ _ _); first | refine pickE_intro _ ⟨by omega, by rfl⟩ ?_ | refine pickE_intro _ (by rfl) ?_) | fail); try simp -dsimp -implicitDefEqProofs (maxSteps := 1000000) (disch := first | omega | (simp only [LN]; omega)) only [go_sem])
     | fail)
    all_goals first | omega | (rw [h4]; exact congrArg Value.bool (decide_eq_true (by omega)))
   ·rw [if_neg hj] at h3
    have h4 : decide (cmpL a b < 0) = false := by rw [← h3]; rfl
    repeat' (first
     | (with_reducible first | refine r_seq ?_ | refine r_block ?_ | refine fork_not ?_ | refine fork_and ?_ | refine fork_or ?_ | refine chk_ok (by kernel_rfl) ?_)
     | ((with_reducible first | refine fork_dec ?_ ?_ | refine fork_eq ?_ ?_ | refine fork_ne ?_ ?_ | refine fork_intro ?_ ?_) <;> intro h <;> try (exfalso; first | omega | exact h rfl | (revert h; decide) | (cases h; done)))
     | ((with_reducible show False); omega)
     | ((first | (with_reducible first | refine r_exit ?_ | refine r_skip ?_ | refine r_cond ?_ | refine r_region ?_ | refine r_ret ?_ | show VX _ _ _ _ _ _ _ | show vstep _ _ _ _ _ | show vskip _ _ _ | show withV _ _) | ((with_reducible show endA _ _ _ _ _ _ _); simp -implicitDefEqProofs only [endA]) | (with_reducible first | refine pick_viewG default (by first | omega | (simp only [LN]; omega)) (by first | omega | (simp only [LN]; omega)) ?_ | refine pick_own default (by first | omega | (simp only [LN]; omega)) ?_ | refine And.intro (by first | decide | omega | assumption | (simp only [LN]; omega)) ?_) | ((with_reducible show pickE _ _ _); first | refine pickE_intro _ ⟨by omega, by rfl⟩ ?_ | refine pickE_intro _ (by rfl) ?_) | fail); try simp -dsimp -implicitDefEqProofs (maxSteps := 1000000) (disch := first | omega | (simp only [LN]; omega)) only [go_sem])
     | fail)
    all_goals first | omega | (rw [h4]; exact congrArg Value.bool (decide_eq_false (by omega)))
def atF : List LP → LP → Nat
 | [], _ => 0
 | o :: t, x => if cmpL o x < 0 then atF t x + 1 else 0
theorem atF_le : ∀ (l : List LP) (x : LP), atF l x ≤ l.length
 | [], _ => Nat.le_refl _
 | o :: t, x => by have := atF_le t x; simp only [atF, List.length_cons]; split <;> omega
theorem atF_lt : ∀ (l : List LP) (x : LP) (i : Nat), i < atF l x → cmpL (l.getD i default) x < 0
 | o :: t, x, i, h => by
  rw [atF] at h
  split at h
  ·cases i with
   | zero => assumption
   | succ i => exact atF_lt t x i (by omega)
  ·omega
theorem atF_ge : ∀ (l : List LP) (x : LP), atF l x < l.length → ¬ cmpL (l.getD (atF l x) default) x < 0
 | o :: t, x, h => by
  by_cases hc : cmpL o x < 0
  ·rw [show atF (o :: t) x = atF t x + 1 from if_pos hc] at h ⊢
   exact atF_ge t x (by simpa using h)
  ·rw [show atF (o :: t) x = 0 from if_neg hc]; exact hc
def insL (l : List LP) (x : LP) : List LP := l.take (atF l x) ++ [x] ++ l.drop (atF l x)
def sF (l : List LP) : Nat → List LP
 | 0 => []
 | i + 1 => insL (sF l i) (l.getD i default)
theorem sF_0 (l : List LP) : sF l 0 = [] := rfl
theorem sF_s (l : List LP) (i : Nat) : sF l (i + 1) = (sF l i).take (atF (sF l i) (l.getD i default)) ++ [l.getD i default] ++ (sF l i).drop (atF (sF l i) (l.getD i default)) := rfl
theorem sF_len (l : List LP) : ∀ i, (sF l i).length = i
 | 0 => rfl
 | i + 1 => by
  have ih := sF_len l i
  have := atF_le (sF l i) (l.getD i default)
  rw [sF_s, List.length_append, List.length_append, List.length_take, List.length_drop]
  simp only [List.length_cons, List.length_nil]; omega
theorem sF_mem (l : List LP) (x : LP) : ∀ i, i ≤ l.length → (x ∈ sF l i ↔ x ∈ l.take i)
 | 0, _ => by simp [sF_0]
 | i + 1, h => by
  have ih := sF_mem l x i (by omega)
  have e : x ∈ sF l i ↔ x ∈ (sF l i).take (atF (sF l i) (l.getD i default)) ∨ x ∈ (sF l i).drop (atF (sF l i) (l.getD i default)) := by
   rw [← List.mem_append, List.take_append_drop]
  rw [sF_s, take_getD default (show i < l.length by omega), List.mem_append, List.mem_append, List.mem_append, ← ih, e]
  constructor
  ·rintro ((h | h) | h)
   ·exact .inl (.inl h)
   ·exact .inr h
   ·exact .inl (.inr h)
  ·rintro ((h | h) | h)
   ·exact .inl (.inl h)
   ·exact .inr h
   ·exact .inl (.inr h)
theorem rep_b (n : Nat) : (List.replicate n false).map eB = List.replicate n (PV.v (.bool false)) := by rw [List.map_replicate]; rfl
attribute [local irreducible] cntF finM addF rapp sF atF
noncomputable def finR (k : Int) (cl : List Hi.C) : List LP := finM k cl (cl.length + 1) (Sp.contM (ini k)) (List.replicate cl.length false) []
theorem r28n (k n e : Int) (cl : List Hi.C) (hk : Sp.newK k = k) (ho : OpsOk k cl) (hl : cl.length ≤ 6) : PCalls Tryz.prog 28 [.v (.int .i64 k), Hi.hW cl n e, .view 2 ((Sp.contM (ini k)).map Sp.eP), .view 1 (List.replicate cl.length (PV.v (.bool false))), .v (.slice none 0 0)] (.view 1 ((finR k cl).map eL)) := by
 have h0 : sameU cl 0 (List.replicate cl.length false) := ⟨List.length_replicate, fun i hi => by rw [Nat.zero_testBit, List.getD_eq_getElem?_getD, List.getElem?_replicate, if_pos hi]; rfl⟩
 have hc : cntF (cl.length + 1) ≤ 100000000000 := by
  have h : cl.length = 0 ∨ cl.length = 1 ∨ cl.length = 2 ∨ cl.length = 3 ∨ cl.length = 4 ∨ cl.length = 5 ∨ cl.length = 6 := by omega
  rcases h with h | h | h | h | h | h | h <;> rw [h] <;> decide +kernel
 have := r28 k n e cl hk ho (by omega) (cl.length + 1) (ini k) 0 0 (List.replicate cl.length false) [] (ok_ini k hk) hk (by omega) h0 (by have := free_le 0 cl.length; omega) (by simpa using hc)
 rw [rep_b] at this
 exact pcalls_le (by simp [PLes, PLe, PLe_self]) this
theorem finR_len (k : Int) (cl : List Hi.C) (hl : cl.length ≤ 6) : (finR k cl).length ≤ 100000000000 := by
 have h1 := finM_len (k := k) (cl := cl) (by omega) (cl.length + 1) (Sp.contM (ini k)) (List.replicate cl.length false) []
 have hc : cntF (cl.length + 1) ≤ 100000000000 := by
  have h : cl.length = 0 ∨ cl.length = 1 ∨ cl.length = 2 ∨ cl.length = 3 ∨ cl.length = 4 ∨ cl.length = 5 ∨ cl.length = 6 := by omega
  rcases h with h | h | h | h | h | h | h <;> rw [h] <;> decide +kernel
 unfold finR
 simp only [List.length_nil] at h1
 omega
set_option maxRecDepth 100000 in
set_option maxHeartbeats 4000000 in
theorem r10 (k n e : Int) (cl : List Hi.C) (hk : Sp.newK k = k) (ho : OpsOk k cl) (hl : cl.length ≤ 6) : PCalls Tryz.prog 10 [.v (.int .i64 k), Hi.hW cl n e] (.view 1 ((sF (finR k cl) (finR k cl).length).map eL)) := by
 refine pcalls_facts ⟨_, rfl, rfl, by decide⟩ fun hf => ?_
 simp only [go_sem, big] at hf
 refine pcalls_of (E := E) (fn := Tryz.f10) 58 [.tmp 4] rfl rfl rfl rfl (by decide) rfl ?_
 have k28 := r28n k n e cl hk ho hl
 have k29 := r29 k hk
 have hF := finR_len k cl hl
 generalize finR k cl = F at *
 repeat' (first
  | (with_reducible first | refine r_seq ?_ | refine r_block ?_ | refine fork_not ?_ | refine fork_and ?_ | refine fork_or ?_ | refine chk_ok (by kernel_rfl) ?_)
  | ((with_reducible first | refine fork_dec ?_ ?_ | refine fork_eq ?_ ?_ | refine fork_ne ?_ ?_ | refine fork_intro ?_ ?_) <;> intro h <;> try (exfalso; first | omega | exact h rfl | (revert h; decide) | (cases h; done)))
  | ((with_reducible show False); omega)
  | ((first | (with_reducible first | refine r_exit ?_ | refine r_skip ?_ | refine r_cond ?_ | refine r_region ?_ | refine r_ret ?_ | show VX _ _ _ _ _ _ _ | show vstep _ _ _ _ _ | show vskip _ _ _ | show withV _ _) | ((with_reducible show endA _ _ _ _ _ _ _); simp -implicitDefEqProofs only [endA]) | (with_reducible first | refine pick_viewG default (by first | omega | (simp only [LN, List.length_replicate, List.take_replicate, Nat.min_self]; omega)) (by first | omega | (simp only [LN, List.length_replicate, List.take_replicate, Nat.min_self]; omega)) ?_ | refine pick_own default (by first | omega | (simp only [LN, List.length_replicate, List.take_replicate, Nat.min_self]; omega)) ?_ | refine And.intro (by first | decide | omega | assumption | (simp only [LN, List.length_replicate, List.take_replicate, Nat.min_self]; omega)) ?_) | ((with_reducible apply callK_pure); (first | exact k28 | exact k29 | fail)) | ((with_reducible apply callF_lend); (first | exact k28 | exact k29 | fail); rfl) | ((with_reducible apply callF_go); (first | exact k28 | exact k29 | fail)) | ((with_reducible show pickE _ _ _); first | refine pickE_intro _ ⟨by omega, by rfl⟩ ?_ | refine pickE_intro _ (by rfl) ?_) | fail); try simp -dsimp -implicitDefEqProofs (maxSteps := 1000000) (disch := first | omega | (simp only [LN, List.length_replicate, List.take_replicate, Nat.min_self]; omega)) only [go_sem, List.length_replicate, List.take_replicate, Nat.min_self])
  | fail)
 refine r_loopA (α := Nat) [21, 22] (fun i b => [(6, .sl b 1 0 (sF F i).length), (23, aI i)]) (fun i b => []) (fun i => [.arr 1 ((sF F i).map eL)]) (fun i => i ≤ F.length) (fun i => F.length - i) (0) ?h0_2 ?hs0_2 ?I_2 ?hI_2 ?round_2
 case hI_2 => intro x; (simp -dsimp -implicitDefEqProofs (maxSteps := 1000000) (disch := first | omega | (simp only [LN]; omega)) only [go_sem]) <;> exact rfl
 case hs0_2 => refine wk_auto ?_; (simp -dsimp -implicitDefEqProofs (maxSteps := 1000000) (disch := first | omega | (simp only [LN, sF_0]; omega)) only [go_sem, sF_0]) <;> (try omega)
 case h0_2 => omega
 case round_2 =>
  intro i hi
  have hsl := sF_len F i
  by_cases hi2 : i < F.length
  ·have hle := atF_le (sF F i) (F.getD i default)
   have hlt := atF_lt (sF F i) (F.getD i default)
   have hge := atF_ge (sF F i) (F.getD i default)
   have e := sF_s F i
   generalize sF F i = S at *
   generalize hT : atF S (F.getD i default) = T at *
   repeat' (first
    | (with_reducible first | refine r_seq ?_ | refine r_block ?_ | refine fork_not ?_ | refine fork_and ?_ | refine fork_or ?_ | refine chk_ok (by kernel_rfl) ?_)
    | ((with_reducible first | refine fork_dec ?_ ?_ | refine fork_eq ?_ ?_ | refine fork_ne ?_ ?_ | refine fork_intro ?_ ?_) <;> intro h <;> try (exfalso; first | omega | exact h rfl | (revert h; decide) | (cases h; done)))
    | ((with_reducible show False); omega)
    | ((first | (with_reducible first | refine r_exit ?_ | refine r_skip ?_ | refine r_cond ?_ | refine r_region ?_ | refine r_ret ?_ | show VX _ _ _ _ _ _ _ | show vstep _ _ _ _ _ | show vskip _ _ _ | show withV _ _) | ((with_reducible show endA _ _ _ _ _ _ _); simp -implicitDefEqProofs only [endA]) | (with_reducible first | refine pick_viewG default (by first | omega | (simp only [LN, hsl]; omega)) (by first | omega | (simp only [LN, hsl]; omega)) ?_ | refine pick_own default (by first | omega | (simp only [LN, hsl]; omega)) ?_ | refine And.intro (by first | decide | omega | assumption | (simp only [LN, hsl]; omega)) ?_) | ((with_reducible show pickE _ _ _); first | refine pickE_intro _ ⟨by omega, by rfl⟩ ?_ | refine pickE_intro _ (by rfl) ?_) | fail); try simp -dsimp -implicitDefEqProofs (maxSteps := 1000000) (disch := first | omega | (simp only [LN, hsl]; omega)) only [go_sem, hsl])
    | fail)
   refine r_loopA (α := Nat) [6, 8, 21, 22, 23] (fun j b => [(9, aI j)]) (fun j b => []) (fun j => []) (fun j => j ≤ T) (fun j => T - j) (0) ?h0_3 ?hs0_3 ?I_3 ?hI_3 ?round_3
   case hI_3 => intro x; (simp -dsimp -implicitDefEqProofs (maxSteps := 1000000) (disch := first | omega | (simp only [LN]; omega)) only [go_sem]) <;> exact rfl
   case hs0_3 => refine wk_auto ?_; (simp -dsimp -implicitDefEqProofs (maxSteps := 1000000) (disch := first | omega | (simp only [LN]; omega)) only [go_sem]) <;> (try omega)
   case h0_3 => omega
   case round_3 =>
    intro j hj
    have k30 := r30 (S.getD j default) (F.getD i default)
    by_cases hj2 : j < T
    ·rw [decide_eq_true (hlt j hj2)] at k30
     repeat' (first
      | (with_reducible first | refine r_seq ?_ | refine r_block ?_ | refine fork_not ?_ | refine fork_and ?_ | refine fork_or ?_ | refine chk_ok (by kernel_rfl) ?_)
      | ((with_reducible first | refine fork_dec ?_ ?_ | refine fork_eq ?_ ?_ | refine fork_ne ?_ ?_ | refine fork_intro ?_ ?_) <;> intro h <;> try (exfalso; first | omega | exact h rfl | (revert h; decide) | (cases h; done)))
      | ((with_reducible show False); omega)
      | ((first | (with_reducible first | refine r_exit ?_ | refine r_skip ?_ | refine r_cond ?_ | refine r_region ?_ | refine r_ret ?_ | show VX _ _ _ _ _ _ _ | show vstep _ _ _ _ _ | show vskip _ _ _ | show withV _ _) | ((with_reducible show endA _ _ _ _ _ _ _); simp -implicitDefEqProofs only [endA]) | (with_reducible first | refine pick_viewG default (by first | omega | (simp only [LN, hsl]; omega)) (by first | omega | (simp only [LN, hsl]; omega)) ?_ | refine pick_own default (by first | omega | (simp only [LN, hsl]; omega)) ?_ | refine And.intro (by first | decide | omega | assumption | (simp only [LN, hsl]; omega)) ?_) | ((with_reducible apply callK_pure); (exact k30)) | ((with_reducible apply callF_lend); (exact k30); rfl) | ((with_reducible apply callF_go); (exact k30)) | ((with_reducible show pickE _ _ _); first | refine pickE_intro _ ⟨by omega, by rfl⟩ ?_ | refine pickE_intro _ (by rfl) ?_) | fail); try simp -dsimp -implicitDefEqProofs (maxSteps := 1000000) (disch := first | omega | (simp only [LN, hsl]; omega)) only [go_sem, hsl])
      | fail)
     all_goals first | omega | (refine loopQ_next (j + 1) ?_ ?_ ?_; (omega); (show _ < _; omega); (simp -dsimp -implicitDefEqProofs (maxSteps := 1000000) (disch := first | omega | (simp only [LN]; omega)) only [go_sem]; try trivial))
    ·obtain rfl : j = T := by omega
     by_cases hj3 : j < S.length
     ·rw [decide_eq_false (hge hj3)] at k30
      repeat' ((fail_if_success (with_reducible show awp _ _ (Code.region 9 _ _) _ _)); first
       | (with_reducible first | refine r_seq ?_ | refine r_block ?_ | refine fork_not ?_ | refine fork_and ?_ | refine fork_or ?_ | refine chk_ok (by kernel_rfl) ?_)
       | ((with_reducible first | refine fork_dec ?_ ?_ | refine fork_eq ?_ ?_ | refine fork_ne ?_ ?_ | refine fork_intro ?_ ?_) <;> intro h <;> try (exfalso; first | omega | exact h rfl | (revert h; decide) | (cases h; done)))
       | ((with_reducible show False); omega)
       | ((first | (with_reducible first | refine r_exit ?_ | refine r_skip ?_ | refine r_cond ?_ | refine r_region ?_ | refine r_ret ?_ | show VX _ _ _ _ _ _ _ | show vstep _ _ _ _ _ | show vskip _ _ _ | show withV _ _) | ((with_reducible show endA _ _ _ _ _ _ _); simp -implicitDefEqProofs only [endA]) | (with_reducible first | refine pick_viewG default (by first | omega | (simp only [LN, hsl]; omega)) (by first | omega | (simp only [LN, hsl]; omega)) ?_ | refine pick_own default (by first | omega | (simp only [LN, hsl]; omega)) ?_ | refine And.intro (by first | decide | omega | assumption | (simp only [LN, hsl]; omega)) ?_) | ((with_reducible apply callK_pure); (exact k30)) | ((with_reducible apply callF_lend); (exact k30); rfl) | ((with_reducible apply callF_go); (exact k30)) | ((with_reducible show pickE _ _ _); first | refine pickE_intro _ ⟨by omega, by rfl⟩ ?_ | refine pickE_intro _ (by rfl) ?_) | fail); try simp -dsimp -implicitDefEqProofs (maxSteps := 1000000) (disch := first | omega | (simp only [LN, hsl]; omega)) only [go_sem, hsl])
       | fail)
      all_goals try omega
      refine r_frz [8, 9, 21, 22, 23] (fun b => [(6, .p (.view 1 (S.map eL)))]) fun I hI => ?_
      simp -dsimp -implicitDefEqProofs (maxSteps := 1000000) (disch := first | omega | (simp only [LN]; omega)) only [go_sem] at hI
      subst hI
      refine And.intro ?_ ?_
      ·(simp -dsimp -implicitDefEqProofs (maxSteps := 1000000) (disch := first | omega | (simp only [LN, hsl]; omega)) only [go_sem, hsl]) <;> (try omega)
      repeat' (first
       | (with_reducible first | refine r_seq ?_ | refine r_block ?_ | refine fork_not ?_ | refine fork_and ?_ | refine fork_or ?_ | refine chk_ok (by kernel_rfl) ?_)
       | ((with_reducible first | refine fork_dec ?_ ?_ | refine fork_eq ?_ ?_ | refine fork_ne ?_ ?_ | refine fork_intro ?_ ?_) <;> intro h <;> try (exfalso; first | omega | exact h rfl | (revert h; decide) | (cases h; done)))
       | ((with_reducible show False); omega)
       | ((first | (with_reducible first | refine r_exit ?_ | refine r_skip ?_ | refine r_cond ?_ | refine r_region ?_ | refine r_ret ?_ | show VX _ _ _ _ _ _ _ | show vstep _ _ _ _ _ | show vskip _ _ _ | show withV _ _) | ((with_reducible show endA _ _ _ _ _ _ _); simp -implicitDefEqProofs only [endA]) | (with_reducible first | refine pick_viewG default (by first | omega | (simp only [LN, hsl]; omega)) (by first | omega | (simp only [LN, hsl]; omega)) ?_ | refine pick_own default (by first | omega | (simp only [LN, hsl]; omega)) ?_ | refine And.intro (by first | decide | omega | assumption | (simp only [LN, hsl]; omega)) ?_) | ((with_reducible show pickE _ _ _); first | refine pickE_intro _ ⟨by omega, by rfl⟩ ?_ | refine pickE_intro _ (by rfl) ?_) | fail); try simp -dsimp -implicitDefEqProofs (maxSteps := 1000000) (disch := first | omega | (simp only [LN, hsl]; omega)) only [go_sem, hsl])
       | fail)
      all_goals first | omega | (refine loopQ_next (i + 1) ?_ ?_ ?_; (omega); (show _ < _; omega); (simp -dsimp -implicitDefEqProofs (maxSteps := 1000000) (disch := first | omega | (simp only [LN, e, hsl, List.map_append]; omega)) only [go_sem, e, hsl, List.map_append]; try trivial))
     ·repeat' ((fail_if_success (with_reducible show awp _ _ (Code.region 9 _ _) _ _)); first
       | (with_reducible first | refine r_seq ?_ | refine r_block ?_ | refine fork_not ?_ | refine fork_and ?_ | refine fork_or ?_ | refine chk_ok (by kernel_rfl) ?_)
       | ((with_reducible first | refine fork_dec ?_ ?_ | refine fork_eq ?_ ?_ | refine fork_ne ?_ ?_ | refine fork_intro ?_ ?_) <;> intro h <;> try (exfalso; first | omega | exact h rfl | (revert h; decide) | (cases h; done)))
       | ((with_reducible show False); omega)
       | ((first | (with_reducible first | refine r_exit ?_ | refine r_skip ?_ | refine r_cond ?_ | refine r_region ?_ | refine r_ret ?_ | show VX _ _ _ _ _ _ _ | show vstep _ _ _ _ _ | show vskip _ _ _ | show withV _ _) | ((with_reducible show endA _ _ _ _ _ _ _); simp -implicitDefEqProofs only [endA]) | (with_reducible first | refine pick_viewG default (by first | omega | (simp only [LN, hsl]; omega)) (by first | omega | (simp only [LN, hsl]; omega)) ?_ | refine pick_own default (by first | omega | (simp only [LN, hsl]; omega)) ?_ | refine And.intro (by first | decide | omega | assumption | (simp only [LN, hsl]; omega)) ?_) | ((with_reducible apply callK_pure); (exact k30)) | ((with_reducible apply callF_lend); (exact k30); rfl) | ((with_reducible apply callF_go); (exact k30)) | ((with_reducible show pickE _ _ _); first | refine pickE_intro _ ⟨by omega, by rfl⟩ ?_ | refine pickE_intro _ (by rfl) ?_) | fail); try simp -dsimp -implicitDefEqProofs (maxSteps := 1000000) (disch := first | omega | (simp only [LN, hsl]; omega)) only [go_sem, hsl])
       | fail)
      all_goals try omega
      refine r_frz [8, 9, 21, 22, 23] (fun b => [(6, .p (.view 1 (S.map eL)))]) fun I hI => ?_
      simp -dsimp -implicitDefEqProofs (maxSteps := 1000000) (disch := first | omega | (simp only [LN]; omega)) only [go_sem] at hI
      subst hI
      refine And.intro ?_ ?_
      ·(simp -dsimp -implicitDefEqProofs (maxSteps := 1000000) (disch := first | omega | (simp only [LN, hsl]; omega)) only [go_sem, hsl]) <;> (try omega)
      repeat' (first
       | (with_reducible first | refine r_seq ?_ | refine r_block ?_ | refine fork_not ?_ | refine fork_and ?_ | refine fork_or ?_ | refine chk_ok (by kernel_rfl) ?_)
       | ((with_reducible first | refine fork_dec ?_ ?_ | refine fork_eq ?_ ?_ | refine fork_ne ?_ ?_ | refine fork_intro ?_ ?_) <;> intro h <;> try (exfalso; first | omega | exact h rfl | (revert h; decide) | (cases h; done)))
       | ((with_reducible show False); omega)
       | ((first | (with_reducible first | refine r_exit ?_ | refine r_skip ?_ | refine r_cond ?_ | refine r_region ?_ | refine r_ret ?_ | show VX _ _ _ _ _ _ _ | show vstep _ _ _ _ _ | show vskip _ _ _ | show withV _ _) | ((with_reducible show endA _ _ _ _ _ _ _); simp -implicitDefEqProofs only [endA]) | (with_reducible first | refine pick_viewG default (by first | omega | (simp only [LN, hsl]; omega)) (by first | omega | (simp only [LN, hsl]; omega)) ?_ | refine pick_own default (by first | omega | (simp only [LN, hsl]; omega)) ?_ | refine And.intro (by first | decide | omega | assumption | (simp only [LN, hsl]; omega)) ?_) | ((with_reducible show pickE _ _ _); first | refine pickE_intro _ ⟨by omega, by rfl⟩ ?_ | refine pickE_intro _ (by rfl) ?_) | fail); try simp -dsimp -implicitDefEqProofs (maxSteps := 1000000) (disch := first | omega | (simp only [LN, hsl]; omega)) only [go_sem, hsl])
       | fail)
      all_goals first | omega | (refine loopQ_next (i + 1) ?_ ?_ ?_; (omega); (show _ < _; omega); (simp -dsimp -implicitDefEqProofs (maxSteps := 1000000) (disch := first | omega | (simp only [LN, e, hsl, List.map_append]; omega)) only [go_sem, e, hsl, List.map_append]; try trivial))
  ·obtain rfl : i = F.length := by omega
   repeat' (first
    | (with_reducible first | refine r_seq ?_ | refine r_block ?_ | refine fork_not ?_ | refine fork_and ?_ | refine fork_or ?_ | refine chk_ok (by kernel_rfl) ?_)
    | ((with_reducible first | refine fork_dec ?_ ?_ | refine fork_eq ?_ ?_ | refine fork_ne ?_ ?_ | refine fork_intro ?_ ?_) <;> intro h <;> try (exfalso; first | omega | exact h rfl | (revert h; decide) | (cases h; done)))
    | ((with_reducible show False); omega)
    | ((first | (with_reducible first | refine r_exit ?_ | refine r_skip ?_ | refine r_cond ?_ | refine r_region ?_ | refine r_ret ?_ | show VX _ _ _ _ _ _ _ | show vstep _ _ _ _ _ | show vskip _ _ _ | show withV _ _) | ((with_reducible show endA _ _ _ _ _ _ _); simp -implicitDefEqProofs only [endA]) | (with_reducible first | refine pick_viewG default (by first | omega | (simp only [LN]; omega)) (by first | omega | (simp only [LN]; omega)) ?_ | refine pick_own default (by first | omega | (simp only [LN]; omega)) ?_ | refine And.intro (by first | decide | omega | assumption | (simp only [LN]; omega)) ?_) | ((with_reducible show pickE _ _ _); first | refine pickE_intro _ ⟨by omega, by rfl⟩ ?_ | refine pickE_intro _ (by rfl) ?_) | fail); try simp -dsimp -implicitDefEqProofs (maxSteps := 1000000) (disch := first | omega | (simp only [LN]; omega)) only [go_sem])
    | fail)
   all_goals first | rfl | omega
end Go.Proofs.YtpcjeaaplidmaaaGreatDoor