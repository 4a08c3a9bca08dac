/- Contracts of functions of this program, and the plain facts that they rest on. No conditions. -/
import Derived.Test.YtpcjeaaplidmaaaDoorLinGQ
set_option linter.unusedSimpArgs false
set_option linter.unusedVariables false
namespace Go.Proofs.YtpcjeaaplidmaaaDoor
open Go Go.Ab
attribute [local irreducible] callK callF loopQ vstep vskip pickE hideP
open Go.RowKit
set_option maxRecDepth 100000
attribute [local go_sem] Hi.eC Hi.hc Hi.hP sV eM eN
def eL (l : LP) : PV := .view 2 (l.map Sp.eP)
theorem pcells_L (l : LP) : pcells (eL l) = some [eL l] := rfl
attribute [local go_sem] pcells_L
def fndP (s : Sp.S) (a : List LP) : Bool × List LP := (false, a ++ [Sp.contM s])
def cntF : Nat → Nat
 | 0 => 0
 | f + 1 => 1 + 10 * cntF f
theorem cnt_s (f : Nat) : cntF (f + 1) = 1 + 10 * cntF f := rfl
theorem go_acc (cl : List Hi.C) (rec : Sp.S → Nat → G → Bool × G) (c : Nat) (hrec : ∀ s used g, (rec s used g).2.acc.length ≤ g.acc.length + c) (s : Sp.S) (used : Nat) : ∀ m i g, (goM cl rec s used m i g).2.acc.length ≤ g.acc.length + m * c
 | 0, _, g => by rw [goM]; simp
 | m + 1, i, g => by
  rw [goM, Nat.succ_mul]
  split
  ·have := go_acc cl rec c hrec s used m (i + 1) g; omega
  ·split
   ·have := go_acc cl rec c hrec s used m (i + 1) g; omega
   ·have h1 := hrec (Sp.applyM s (opC (cl.getD i default))).1 (used ||| 2 ^ i) ⟨g.seen, g.es.take g.n ++ [i], g.n + 1, g.acc⟩
    generalize rec (Sp.applyM s (opC (cl.getD i default))).1 (used ||| 2 ^ i) ⟨g.seen, g.es.take g.n ++ [i], g.n + 1, g.acc⟩ = r at h1 ⊢
    dsimp only at h1
    split
    ·dsimp only; omega
    ·have := go_acc cl rec c hrec s used m (i + 1) ⟨r.2.seen, r.2.es, r.2.n - 1, r.2.acc⟩
     dsimp only at this; omega
theorem run_acc (cl : List Hi.C) (hl : cl.length ≤ 10) : ∀ f s used g, (runM cl fndP f s used g).2.acc.length ≤ g.acc.length + cntF f
 | 0, _, _, g => Nat.le_refl _
 | f + 1, s, used, g => by
  have ih := run_acc cl hl f
  have hm : cl.length * cntF f ≤ 10 * cntF f := Nat.mul_le_mul_right _ hl
  rw [runM, cntF]
  split
  ·dsimp only; omega
  ·split
   ·rw [if_neg (show ¬ (fndP s g.acc).1 = true from Bool.false_ne_true)]
    have := go_acc cl _ (cntF f) ih s used cl.length 0 ⟨keyM s used :: g.seen, g.es, g.n, (fndP s g.acc).2⟩
    have e : (fndP s g.acc).2.length = g.acc.length + 1 := by simp [fndP]
    dsimp only at this; omega
   ·have := go_acc cl _ (cntF f) ih s used cl.length 0 ⟨keyM s used :: g.seen, g.es, g.n, g.acc⟩
    dsimp only at this; omega
theorem append_eL (a : List LP) (c : LP) : a.map eL ++ [PV.view 2 (c.map Sp.eP)] = (a ++ [c]).map eL := by rw [List.map_append]; rfl
set_option maxRecDepth 100000 in
set_option maxHeartbeats 4000000 in
theorem a36 (s : Sp.S) (b : Nat) (A : List LP) (hs : OkS s b) (hb : b ≤ 10000) (hA : A.length ≤ 100000000000) : ACalls Tryd.prog 36 [.p (Sp.eS s), .loc 0 0] [.var [.sl 1 1 0 A.length], .arr 1 (A.map eL)] (.p (.v (.bool false))) [.var [.sl 2 1 0 (A.length + 1)], .dead, .arr 1 ((A ++ [Sp.contM s]).map eL)] := by
 refine acalls_of (E := E) (fn := Tryd.f36) 9 [.tmp 3] rfl rfl rfl rfl (by decide) rfl rfl ?_
 have h1 := hs.inv.ps
 have h2 := hs.inv.vs
 repeat' (first
  | (with_reducible first | refine r_seq ?_ | refine r_block ?_ | refine fork_not ?_ | refine fork_and ?_ | refine fork_or ?_ | refine chk_ok (by kernel_rfl) ?_)
  | ((with_reducible first | refine fork_dec ?_ ?_ | refine fork_eq ?_ ?_ | refine fork_ne ?_ ?_ | refine fork_intro ?_ ?_) <;> intro h)
  | ((with_reducible show False); omega)
  | ((first | (with_reducible first | refine r_exit ?_ | refine r_skip ?_ | refine r_cond ?_ | refine r_region ?_ | refine r_ret ?_ | show VX _ _ _ _ _ _ _ | show vstep _ _ _ _ _ | show vskip _ _ _ | show withV _ _) | ((with_reducible show endA _ _ _ _ _ _ _); simp -implicitDefEqProofs only [endA]) | (with_reducible first | refine pick_viewG default (by first | omega | (simp only [LN, append_eL]; omega)) (by first | omega | (simp only [LN, append_eL]; omega)) ?_ | refine pick_own default (by first | omega | (simp only [LN, append_eL]; omega)) ?_ | refine And.intro (by first | decide | omega | assumption | (simp only [LN, append_eL]; omega)) ?_) | ((with_reducible apply callK_pure); (exact Sp.c13 s (by omega) (by omega))) | ((with_reducible apply callF_lend); (exact Sp.c13 s (by omega) (by omega)); rfl) | ((with_reducible apply callF_go); (exact Sp.c13 s (by omega) (by omega))) | ((with_reducible show pickE _ _ _); first | refine pickE_intro _ ⟨by omega, by rfl⟩ ?_ | refine pickE_intro _ (by rfl) ?_) | fail); try simp -dsimp -implicitDefEqProofs (maxSteps := 1000000) (disch := first | omega | (simp only [LN, append_eL]; omega)) only [go_sem, append_eL])
  | fail)
 all_goals first | (exact .inl rfl)
attribute [local irreducible] seenV keyM goM runM numL textP befL endN cntF
def RunOkP (cl : List Hi.C) (f : Nat) : Prop := ∀ (s : Sp.S) (used b : Nat) (g : G), OkS s b → b + f ≤ 100 → freeN used cl.length < f → used < 2 ^ cl.length → g.n ≤ g.es.length → g.n + f ≤ 1000 → g.acc.length + cntF f ≤ 100000000000 →
 ACalls Tryd.prog 32 [.loc 0 0, .p (Sp.eS s), .p (.v (.int .u64 used))]
  [sV cl (endN cl) 1 2 (.sl 3 1 0 g.n) (.fn 36 [.loc 4 0]), .arr 1 ((befL cl cl.length 0).map eM), .mp none (.b (seenV g.seen)), .arr 1 (g.es.map eN), .var [.sl 5 1 0 g.acc.length], .arr 1 (g.acc.map eL)]
  (.p (.v (.bool (runM cl fndP f s used g).1)))
  [sV cl (endN cl) 1 6 (.sl 7 1 0 (runM cl fndP f s used g).2.n) (.fn 36 [.loc 4 0]), .arr 1 ((befL cl cl.length 0).map eM), .dead, .dead, .var [.sl 8 1 0 (runM cl fndP f s used g).2.acc.length], .dead, .mp none (.b (seenV (runM cl fndP f s used g).2.seen)), .arr 1 ((runM cl fndP f s used g).2.es.map eN), .arr 1 ((runM cl fndP f s used g).2.acc.map eL)]
theorem fndP_1 (s : Sp.S) (a : List LP) : (fndP s a).1 = false := rfl
theorem fndP_2 (s : Sp.S) (a : List LP) : (fndP s a).2 = a ++ [Sp.contM s] := rfl
set_option maxRecDepth 100000 in
set_option maxHeartbeats 4000000 in
theorem a32p (cl : List Hi.C) (f : Nat) (s : Sp.S) (used b : Nat) (g : G) (ih : RunOkP cl f) (hs : OkS s b) (hb : b + (f + 1) ≤ 100) (hfr : freeN used cl.length < f + 1) (hu : used < 2 ^ cl.length) (hg : g.n ≤ g.es.length) (hg2 : g.n + (f + 1) ≤ 1000) (hacc : g.acc.length + cntF (f + 1) ≤ 100000000000) (hl : cl.length ≤ 10) (hro : ∀ i, i < cl.length → RngO (opC (cl.getD i default))) (R : Bool × G) (hR : runM cl fndP (f + 1) s used g = R) : ACalls Tryd.prog 32 [.loc 0 0, .p (Sp.eS s), .p (.v (.int .u64 used))] [sV cl (endN cl) 1 2 (.sl 3 1 0 g.n) (.fn 36 [.loc 4 0]), .arr 1 ((befL cl cl.length 0).map eM), .mp none (.b (seenV g.seen)), .arr 1 (g.es.map eN), .var [.sl 5 1 0 g.acc.length], .arr 1 (g.acc.map eL)] (.p (.v (.bool R.1))) [sV cl (endN cl) 1 6 (.sl 7 1 0 R.2.n) (.fn 36 [.loc 4 0]), .arr 1 ((befL cl cl.length 0).map eM), .dead, .dead, .var [.sl 8 1 0 R.2.acc.length], .dead, .mp none (.b (seenV R.2.seen)), .arr 1 (R.2.es.map eN), .arr 1 (R.2.acc.map eL)] := by
 refine acalls_of (E := E) (fn := Tryd.f32) 120 [.tmp 6] rfl rfl rfl rfl (by decide) rfl rfl ?_
 have hs1 := hs
 have h1 := hs.inv.ps
 have h2 := hs.inv.vs
 have hs0 := hs.inv.srt
 have hcl := Sp.cont_len hs.inv
 have hrg := cont_rng hs (by omega)
 have hu2 : used < 1024 := Nat.lt_of_lt_of_le hu (Nat.pow_le_pow_right (show 0 < 2 by decide) hl)
 have hcf := cnt_s f
 have hnc : cl.length * cntF f ≤ 10 * cntF f := Nat.mul_le_mul_right _ hl
 have k48 := c48 (used : Int) (by omega)
 have k49 := c49 (Sp.contM s) (by omega) hrg
 have k13 := Sp.c13 s (by omega) (by omega)
 have k36 := a36 s b g.acc hs (by omega) (by omega)
 have hnl := numL_len (n := (used : Int)) (by omega)
 have htl : (textP (Sp.contM s)).length ≤ 42 * (Sp.contM s).length := textP_len hrg
 have hkey : numL (used : Int) ++ (58 :: textP (Sp.contM s)) = keyM s used := by unfold keyM; rfl
 have hand := andnot (endN cl) used (endN_lt cl hl) hu2
 obtain ⟨ek, hek⟩ : ∃ e : Nat, (endN cl ^^^ (endN cl &&& used)) = e := ⟨_, rfl⟩
 have hek2 := andnot_0 (endN cl) used
 rw [hek] at hand hek2
 by_cases h0 : keyM s used ∈ g.seen
 ·rw [runM_seen h0] at hR
  subst hR
  repeat' (first
   | (with_reducible first | refine r_seq ?_ | refine r_block ?_ | refine fork_not ?_ | refine fork_and ?_ | refine fork_or ?_ | refine chk_ok (by kernel_rfl) ?_)
   | ((with_reducible first | refine fork_dec ?_ ?_ | refine fork_eq ?_ ?_ | refine fork_ne ?_ ?_ | refine fork_intro ?_ ?_) <;> intro h <;> try (exfalso; first | omega | exact h rfl | (revert h; decide) | (cases h; done)))
   | ((with_reducible show False); omega)
   | ((first | (with_reducible first | refine r_exit ?_ | refine r_skip ?_ | refine r_cond ?_ | refine r_region ?_ | refine r_ret ?_ | show VX _ _ _ _ _ _ _ | show vstep _ _ _ _ _ | show vskip _ _ _ | show withV _ _) | ((with_reducible show endA _ _ _ _ _ _ _); simp -implicitDefEqProofs only [endA]) | (with_reducible first | refine pick_viewG default (by first | omega | (simp only [LN, hkey, seenV_s, seen_upd, List.append_assoc, List.cons_append, List.nil_append]; omega)) (by first | omega | (simp only [LN, hkey, seenV_s, seen_upd, List.append_assoc, List.cons_append, List.nil_append]; omega)) ?_ | refine pick_own default (by first | omega | (simp only [LN, hkey, seenV_s, seen_upd, List.append_assoc, List.cons_append, List.nil_append]; omega)) ?_ | refine And.intro (by first | decide | omega | assumption | (simp only [LN, hkey, seenV_s, seen_upd, List.append_assoc, List.cons_append, List.nil_append]; omega)) ?_) | ((with_reducible apply callK_pure); (first | exact k48 | exact k49 | exact k13 | fail)) | ((with_reducible apply callF_lend); (first | exact k48 | exact k49 | exact k13 | fail); rfl) | ((with_reducible apply callF_go); (first | exact k48 | exact k49 | exact k13 | fail)) | (with_reducible first | apply callK_lent | apply callF_lent | apply hideP_own) | ((with_reducible apply callA_go); (first | exact k36 | fail)) | ((with_reducible show pickE _ _ _); first | refine pickE_intro _ ⟨by omega, by rfl⟩ ?_ | refine pickE_intro _ (by rfl) ?_) | fail); try simp -dsimp -implicitDefEqProofs (maxSteps := 1000000) (disch := first | omega | (simp only [LN, hkey, seenV_s, seen_upd, List.append_assoc, List.cons_append, List.nil_append]; omega)) only [go_sem, hkey, seenV_s, seen_upd, List.append_assoc, List.cons_append, List.nil_append])
   | fail)
  all_goals first | (exact absurd h0 (by assumption)) | (exact ⟨⟨rfl, rfl, rfl, .inl rfl, .inl rfl⟩, rfl⟩)
 ·obtain ⟨A, hA⟩ : ∃ A, A = (if ek = 0 then g.acc ++ [Sp.contM s] else g.acc) := ⟨_, rfl⟩
  have hAl : A.length ≤ g.acc.length + 1 := by rw [hA]; split <;> simp
  have g2 : goM cl (runM cl fndP f) s used cl.length 0 ⟨keyM s used :: g.seen, g.es, g.n, A⟩ = R := by
   rw [← hR, runM_go h0, hA]
   by_cases h2 : endN cl &&& used = endN cl
   ·rw [if_pos h2, if_pos (hek2.2 h2), fndP_1, if_neg Bool.false_ne_true, fndP_2]
   ·rw [if_neg h2, if_neg (fun h => h2 (hek2.1 h))]
  repeat' (first
   | (with_reducible first | refine r_seq ?_ | refine r_block ?_ | refine fork_not ?_ | refine fork_and ?_ | refine fork_or ?_ | refine chk_ok (by kernel_rfl) ?_)
   | ((with_reducible first | refine fork_dec ?_ ?_ | refine fork_eq ?_ ?_ | refine fork_ne ?_ ?_ | refine fork_intro ?_ ?_) <;> intro h <;> try (exfalso; first | omega | exact h rfl | (revert h; decide) | (cases h; done)))
   | ((with_reducible show False); omega)
   | ((first | (with_reducible first | refine r_exit ?_ | refine r_skip ?_ | refine r_cond ?_ | refine r_region ?_ | refine r_ret ?_ | show VX _ _ _ _ _ _ _ | show vstep _ _ _ _ _ | show vskip _ _ _ | show withV _ _) | ((with_reducible show endA _ _ _ _ _ _ _); simp -implicitDefEqProofs only [endA]) | (with_reducible first | refine pick_viewG default (by first | omega | (simp only [LN, hkey, seenV_s, seen_upd, hand, List.append_assoc, List.cons_append, List.nil_append]; omega)) (by first | omega | (simp only [LN, hkey, seenV_s, seen_upd, hand, List.append_assoc, List.cons_append, List.nil_append]; omega)) ?_ | refine pick_own default (by first | omega | (simp only [LN, hkey, seenV_s, seen_upd, hand, List.append_assoc, List.cons_append, List.nil_append]; omega)) ?_ | refine And.intro (by first | decide | omega | assumption | (simp only [LN, hkey, seenV_s, seen_upd, hand, List.append_assoc, List.cons_append, List.nil_append]; omega)) ?_) | ((with_reducible apply callK_pure); (first | exact k48 | exact k49 | exact k13 | fail)) | ((with_reducible apply callF_lend); (first | exact k48 | exact k49 | exact k13 | fail); rfl) | ((with_reducible apply callF_go); (first | exact k48 | exact k49 | exact k13 | fail)) | (with_reducible first | apply callK_lent | apply callF_lent | apply hideP_own) | ((with_reducible apply callA_go); (first | exact k36 | fail)) | ((with_reducible show pickE _ _ _); first | refine pickE_intro _ ⟨by omega, by rfl⟩ ?_ | refine pickE_intro _ (by rfl) ?_) | fail); try simp -dsimp -implicitDefEqProofs (maxSteps := 1000000) (disch := first | omega | (simp only [LN, hkey, seenV_s, seen_upd, hand, List.append_assoc, List.cons_append, List.nil_append]; omega)) only [go_sem, hkey, seenV_s, seen_upd, hand, List.append_assoc, List.cons_append, List.nil_append])
   | fail)
  all_goals first | (exact absurd (by assumption) h0) | (have hA2 : A = g.acc ++ [Sp.contM s] := (by rw [hA, if_pos (by omega)])) | (have hA2 : A = g.acc := (by rw [hA, if_neg (by omega)])) | skip
  all_goals
   refine r_loopB (α := Nat × G) [0, 2, 4, 48, 49] (fun q b => [(50, aI q.1)]) (fun q b => [(0, sV cl (endN cl) 1 b (.sl (b + 1) 1 0 q.2.n) (.fn 36 [.loc 4 0])), (1002, .dead), (1003, .dead), (1004, .var [.sl (b + 2) 1 0 q.2.acc.length]), (1005, .dead)]) (fun q => [.mp none (.b (seenV q.2.seen)), .arr 1 (q.2.es.map eN), .arr 1 (q.2.acc.map eL)]) (fun q => q.1 ≤ cl.length ∧ goM cl (runM cl fndP f) s used (cl.length - q.1) q.1 q.2 = R ∧ q.2.n = g.n ∧ q.2.n ≤ q.2.es.length ∧ q.2.acc.length ≤ g.acc.length + 1 + q.1 * cntF f) (fun q => cl.length - q.1) ((0, ⟨keyM s used :: g.seen, g.es, g.n, A⟩)) ?h0_1 ?hs0_1 ?I_1 ?hI_1 ?round_1
   case hI_1 => intro x; (simp -dsimp -implicitDefEqProofs (maxSteps := 1000000) (disch := first | omega | (simp only [LN]; omega)) only [go_sem]) <;> exact rfl
   case hs0_1 => refine wk_auto ?_; (simp -dsimp -implicitDefEqProofs (maxSteps := 1000000) (disch := first | omega | (simp only [LN, hA2, List.length_append, List.length_cons, List.length_nil]; omega)) only [go_sem, hA2, List.length_append, List.length_cons, List.length_nil]) <;> (try omega)
   case h0_1 => exact ⟨Nat.zero_le _, g2, rfl, hg, by dsimp only; omega⟩
   case round_1 =>
    rintro ⟨i, q⟩ ⟨q1, q2, q3, q4, q5⟩
    dsimp only at q1 q2 q3 q4 q5
    by_cases hi : i < cl.length
    ·obtain ⟨m, hm, hm2⟩ : ∃ m, cl.length - i = m + 1 ∧ cl.length - (i + 1) = m := ⟨cl.length - (i + 1), by omega, rfl⟩
     rw [hm] at q2
     have hmul : (i + 1) * cntF f ≤ 10 * cntF f := Nat.mul_le_mul_right _ (by omega)
     rw [Nat.succ_mul] at hmul
     have hbl := befL_len cl cl.length 0
     have hbg := befL_at (cl := cl) hi
     have hbit := bitI used i hu2 (by omega)
     have hbnd := mask_lt (befP cl i) cl.length
     have hba := andI (maskN (befP cl i) cl.length) used (Nat.lt_of_lt_of_le hbnd (Nat.pow_le_pow_right (show 0 < 2 by decide) hl)) hu2
     have hor := or1 used i hu2 (by omega)
     have hsk := skip_iff (cl := cl) (used := used) (i := i)
     generalize maskN (befP cl i) cl.length &&& used = Bf at *
     generalize used / 2 ^ i % 2 = A' at *
     cases hs : skipB cl used i with
     | true =>
      rw [goM_skip hs] at q2
      have hsk := hsk.1 hs
      repeat' (first
       | (with_reducible first | refine r_seq ?_ | refine r_block ?_ | refine fork_not ?_ | refine fork_and ?_ | refine fork_or ?_ | refine chk_ok (by kernel_rfl) ?_)
       | ((with_reducible first | refine fork_dec ?_ ?_ | refine fork_eq ?_ ?_ | refine fork_ne ?_ ?_ | refine fork_intro ?_ ?_) <;> intro h <;> try (exfalso; first | omega | exact h rfl | (revert h; decide) | (cases h; done)))
       | ((with_reducible show False); omega)
       | ((first | (with_reducible first | refine r_exit ?_ | refine r_skip ?_ | refine r_cond ?_ | refine r_region ?_ | refine r_ret ?_ | show VX _ _ _ _ _ _ _ | show vstep _ _ _ _ _ | show vskip _ _ _ | show withV _ _) | ((with_reducible show endA _ _ _ _ _ _ _); simp -implicitDefEqProofs only [endA]) | (with_reducible first | refine pick_viewG default (by first | omega | (simp only [LN, hbl, hbg, hbit, hba]; omega)) (by first | omega | (simp only [LN, hbl, hbg, hbit, hba]; omega)) ?_ | refine pick_own default (by first | omega | (simp only [LN, hbl, hbg, hbit, hba]; omega)) ?_ | refine And.intro (by first | decide | omega | assumption | (simp only [LN, hbl, hbg, hbit, hba]; omega)) ?_) | ((with_reducible show pickE _ _ _); first | refine pickE_intro _ ⟨by omega, by rfl⟩ ?_ | refine pickE_intro _ (by rfl) ?_) | fail); try simp -dsimp -implicitDefEqProofs (maxSteps := 1000000) (disch := first | omega | (simp only [LN, hbl, hbg, hbit, hba]; omega)) only [go_sem, hbl, hbg, hbit, hba])
       | fail)
      all_goals first
       | omega
       | (refine loopQ_next (i + 1, q) ⟨by dsimp only; omega, by dsimp only; rw [hm2]; exact q2, q3, q4, by dsimp only; rw [Nat.succ_mul]; omega⟩ (by dsimp only; omega) ?_; simp -dsimp -implicitDefEqProofs (maxSteps := 1000000) (disch := first | omega | (simp only [LN]; omega)) only [go_sem]; try trivial)
     | false =>
      have hsk : ¬ (A' = 1 ∨ Bf ≠ 0) := fun h => by rw [hsk.2 h] at hs; cases hs
      have k12 : PCalls Tryd.prog 12 [Sp.eS s, Sp.eO (opC (cl.getD i default))] _ := Sp.c12 s (opC (cl.getD i default)) (Sp.sorted_pl.2 hs0) (by omega) (by omega)
      obtain ⟨T, hT⟩ : ∃ T, Sp.applyM s (opC (cl.getD i default)) = T := ⟨_, rfl⟩
      have hok := ok_apply hs1 (hro i hi)
      have hstep : stepB cl s i = decide (0 ≤ (cl.getD i default).en → eqR T.2 (resC (cl.getD i default))) := by unfold stepB; rw [hT]
      have hul : used ||| 2 ^ i < 2 ^ cl.length := Nat.or_lt_two_pow hu (Nat.pow_lt_pow_right (by decide) hi)
      have hlen : (q.es.take q.n ++ [i]).length = q.n + 1 := by rw [List.length_append, List.length_take]; simp; omega
      have kih := ih T.1 (used ||| 2 ^ i) (b + 1) ⟨q.seen, q.es.take q.n ++ [i], q.n + 1, q.acc⟩ (hT ▸ hok) (by omega) (by have := free_or used i (bit_no hs) cl.length hi; omega) hul (by dsimp only; omega) (by dsimp only; omega) (by dsimp only; omega)
      have hrn := run_n cl fndP f T.1 (used ||| 2 ^ i) ⟨q.seen, q.es.take q.n ++ [i], q.n + 1, q.acc⟩ (by dsimp only; omega)
      have hra := run_acc cl hl f T.1 (used ||| 2 ^ i) ⟨q.seen, q.es.take q.n ++ [i], q.n + 1, q.acc⟩
      rw [hT] at k12
      obtain ⟨r, hr⟩ : ∃ r, runM cl fndP f T.1 (used ||| 2 ^ i) ⟨q.seen, q.es.take q.n ++ [i], q.n + 1, q.acc⟩ = r := ⟨_, rfl⟩
      rw [hr] at kih hrn hra
      dsimp only at kih hra
      rw [List.map_append] at kih
      obtain ⟨rn1, rn2, rn3, rn4⟩ := hrn
      dsimp only at rn2 rn3 rn4
      by_cases hst : 0 ≤ (cl.getD i default).en → eqR T.2 (resC (cl.getD i default))
      ·rw [decide_eq_true hst] at hstep
       unfold eqR resC at hst
       rw [goM_yes (r := r) hs hstep (by rw [hT]; exact hr)] at q2
       obtain ⟨rb, rg⟩ := r
       cases rb with
       | true =>
        rw [if_pos rfl] at q2
        subst q2
        repeat' (first
         | (with_reducible first | refine r_seq ?_ | refine r_block ?_ | refine fork_not ?_ | refine fork_and ?_ | refine fork_or ?_ | refine chk_ok (by kernel_rfl) ?_)
         | ((with_reducible first | refine fork_dec ?_ ?_ | refine fork_eq ?_ ?_ | refine fork_ne ?_ ?_ | refine fork_intro ?_ ?_) <;> intro h <;> try (exfalso; first | omega | exact h rfl | (revert h; decide) | (cases h; done)))
         | ((with_reducible show False); omega)
         | ((first | (with_reducible first | refine r_exit ?_ | refine r_skip ?_ | refine r_cond ?_ | refine r_region ?_ | refine r_ret ?_ | show VX _ _ _ _ _ _ _ | show vstep _ _ _ _ _ | show vskip _ _ _ | show withV _ _) | ((with_reducible show endA _ _ _ _ _ _ _); simp -implicitDefEqProofs only [endA]) | (with_reducible first | refine pick_viewG default (by first | omega | (simp only [LN, hbl, hbg, hbit, hba, hor]; omega)) (by first | omega | (simp only [LN, hbl, hbg, hbit, hba, hor]; omega)) ?_ | refine pick_own default (by first | omega | (simp only [LN, hbl, hbg, hbit, hba, hor]; omega)) ?_ | refine And.intro (by first | decide | omega | assumption | (simp only [LN, hbl, hbg, hbit, hba, hor]; omega)) ?_) | ((with_reducible apply callK_pure); (exact k12)) | ((with_reducible apply callF_lend); (exact k12); rfl) | ((with_reducible apply callF_go); (exact k12)) | (with_reducible first | apply callK_lent | apply callF_lent | apply hideP_own) | ((with_reducible apply callA_go); (first | exact kih | fail)) | ((with_reducible show pickE _ _ _); first | refine pickE_intro _ ⟨by omega, by rfl⟩ ?_ | refine pickE_intro _ (by rfl) ?_) | fail); try simp -dsimp -implicitDefEqProofs (maxSteps := 1000000) (disch := first | omega | (simp only [LN, hbl, hbg, hbit, hba, hor]; omega)) only [go_sem, hbl, hbg, hbit, hba, hor])
         | fail)
        all_goals first
         | omega
         | (exfalso; have h9 := hst (by assumption); dsimp only at h9; first | exact absurd h9.1 (by assumption) | exact absurd h9.2.1 (by assumption) | exact absurd h9.2.2 (by assumption))
         | (exact ⟨⟨rfl, rfl, rfl, .inl rfl, .inl rfl⟩, rfl⟩)
       | false =>
        rw [if_neg (show ¬ (false, rg).1 = true from Bool.false_ne_true)] at q2
        dsimp only at q2
        have rn4 : rg.n = q.n + 1 := rn4 rfl
        have rn1 : rg.n ≤ rg.es.length := rn1
        have hra : rg.acc.length ≤ q.acc.length + cntF f := hra
        repeat' (first
         | (with_reducible first | refine r_seq ?_ | refine r_block ?_ | refine fork_not ?_ | refine fork_and ?_ | refine fork_or ?_ | refine chk_ok (by kernel_rfl) ?_)
         | ((with_reducible first | refine fork_dec ?_ ?_ | refine fork_eq ?_ ?_ | refine fork_ne ?_ ?_ | refine fork_intro ?_ ?_) <;> intro h <;> try (exfalso; first | omega | exact h rfl | (revert h; decide) | (cases h; done)))
         | ((with_reducible show False); omega)
         | ((first | (with_reducible first | refine r_exit ?_ | refine r_skip ?_ | refine r_cond ?_ | refine r_region ?_ | refine r_ret ?_ | show VX _ _ _ _ _ _ _ | show vstep _ _ _ _ _ | show vskip _ _ _ | show withV _ _) | ((with_reducible show endA _ _ _ _ _ _ _); simp -implicitDefEqProofs only [endA]) | (with_reducible first | refine pick_viewG default (by first | omega | (simp only [LN, hbl, hbg, hbit, hba, hor]; omega)) (by first | omega | (simp only [LN, hbl, hbg, hbit, hba, hor]; omega)) ?_ | refine pick_own default (by first | omega | (simp only [LN, hbl, hbg, hbit, hba, hor]; omega)) ?_ | refine And.intro (by first | decide | omega | assumption | (simp only [LN, hbl, hbg, hbit, hba, hor]; omega)) ?_) | ((with_reducible apply callK_pure); (exact k12)) | ((with_reducible apply callF_lend); (exact k12); rfl) | ((with_reducible apply callF_go); (exact k12)) | (with_reducible first | apply callK_lent | apply callF_lent | apply hideP_own) | ((with_reducible apply callA_go); (first | exact kih | fail)) | ((with_reducible show pickE _ _ _); first | refine pickE_intro _ ⟨by omega, by rfl⟩ ?_ | refine pickE_intro _ (by rfl) ?_) | fail); try simp -dsimp -implicitDefEqProofs (maxSteps := 1000000) (disch := first | omega | (simp only [LN, hbl, hbg, hbit, hba, hor]; omega)) only [go_sem, hbl, hbg, hbit, hba, hor])
         | fail)
        all_goals first
         | omega
         | (exfalso; have h9 := hst (by assumption); dsimp only at h9; first | exact absurd h9.1 (by assumption) | exact absurd h9.2.1 (by assumption) | exact absurd h9.2.2 (by assumption))
         | (refine loopQ_next (i + 1, ⟨rg.seen, rg.es, rg.n - 1, rg.acc⟩) ⟨by dsimp only; omega, by dsimp only; rw [hm2]; exact q2, by dsimp only; omega, by dsimp only; omega, by dsimp only; rw [Nat.succ_mul]; omega⟩ (by dsimp only; omega) ?_; simp -dsimp -implicitDefEqProofs (maxSteps := 1000000) (disch := first | omega | (simp only [LN]; omega)) only [go_sem]; try trivial)
      ·rw [decide_eq_false hst] at hstep
       rw [goM_no hs hstep] at q2
       unfold eqR resC at hst
       repeat' (first
        | (with_reducible first | refine r_seq ?_ | refine r_block ?_ | refine fork_not ?_ | refine fork_and ?_ | refine fork_or ?_ | refine chk_ok (by kernel_rfl) ?_)
        | ((with_reducible first | refine fork_dec ?_ ?_ | refine fork_eq ?_ ?_ | refine fork_ne ?_ ?_ | refine fork_intro ?_ ?_) <;> intro h <;> try (exfalso; first | omega | exact h rfl | (revert h; decide) | (cases h; done)))
        | ((with_reducible show False); omega)
        | ((first | (with_reducible first | refine r_exit ?_ | refine r_skip ?_ | refine r_cond ?_ | refine r_region ?_ | refine r_ret ?_ | show VX _ _ _ _ _ _ _ | show vstep _ _ _ _ _ | show vskip _ _ _ | show withV _ _) | ((with_reducible show endA _ _ _ _ _ _ _); simp -implicitDefEqProofs only [endA]) | (with_reducible first | refine pick_viewG default (by first | omega | (simp only [LN, hbl, hbg, hbit, hba, hor]; omega)) (by first | omega | (simp only [LN, hbl, hbg, hbit, hba, hor]; omega)) ?_ | refine pick_own default (by first | omega | (simp only [LN, hbl, hbg, hbit, hba, hor]; omega)) ?_ | refine And.intro (by first | decide | omega | assumption | (simp only [LN, hbl, hbg, hbit, hba, hor]; omega)) ?_) | ((with_reducible apply callK_pure); (exact k12)) | ((with_reducible apply callF_lend); (exact k12); rfl) | ((with_reducible apply callF_go); (exact k12)) | (with_reducible first | apply callK_lent | apply callF_lent | apply hideP_own) | ((with_reducible apply callA_go); (first | exact kih | fail)) | ((with_reducible show pickE _ _ _); first | refine pickE_intro _ ⟨by omega, by rfl⟩ ?_ | refine pickE_intro _ (by rfl) ?_) | fail); try simp -dsimp -implicitDefEqProofs (maxSteps := 1000000) (disch := first | omega | (simp only [LN, hbl, hbg, hbit, hba, hor]; omega)) only [go_sem, hbl, hbg, hbit, hba, hor])
        | fail)
       all_goals first
        | omega
        | (refine loopQ_next (i + 1, q) ⟨by dsimp only; omega, by dsimp only; rw [hm2]; exact q2, q3, q4, by dsimp only; rw [Nat.succ_mul]; omega⟩ (by dsimp only; omega) ?_; simp -dsimp -implicitDefEqProofs (maxSteps := 1000000) (disch := first | omega | (simp only [LN]; omega)) only [go_sem]; try trivial)
        | (exfalso; exact hst fun _ => ⟨by assumption, by assumption, by assumption⟩)
        | (exfalso; exact hst fun _ => by omega)
    ·rw [show cl.length - i = 0 by omega, goM_0] at q2
     subst q2
     repeat' (first
      | (with_reducible first | refine r_seq ?_ | refine r_block ?_ | refine fork_not ?_ | refine fork_and ?_ | refine fork_or ?_ | refine chk_ok (by kernel_rfl) ?_)
      | ((with_reducible first | refine fork_dec ?_ ?_ | refine fork_eq ?_ ?_ | refine fork_ne ?_ ?_ | refine fork_intro ?_ ?_) <;> intro h <;> try (exfalso; first | omega | exact h rfl | (revert h; decide) | (cases h; done)))
      | ((with_reducible show False); omega)
      | ((first | (with_reducible first | refine r_exit ?_ | refine r_skip ?_ | refine r_cond ?_ | refine r_region ?_ | refine r_ret ?_ | show VX _ _ _ _ _ _ _ | show vstep _ _ _ _ _ | show vskip _ _ _ | show withV _ _) | ((with_reducible show endA _ _ _ _ _ _ _); simp -implicitDefEqProofs only [endA]) | (with_reducible first | refine pick_viewG default (by first | omega | (simp only [LN]; omega)) (by first | omega | (simp only [LN]; omega)) ?_ | refine pick_own default (by first | omega | (simp only [LN]; omega)) ?_ | refine And.intro (by first | decide | omega | assumption | (simp only [LN]; omega)) ?_) | ((with_reducible show pickE _ _ _); first | refine pickE_intro _ ⟨by omega, by rfl⟩ ?_ | refine pickE_intro _ (by rfl) ?_) | fail); try simp -dsimp -implicitDefEqProofs (maxSteps := 1000000) (disch := first | omega | (simp only [LN]; omega)) only [go_sem])
      | fail)
     all_goals first | (exact ⟨⟨rfl, rfl, rfl, .inl rfl, .inl rfl⟩, rfl⟩)
theorem run_allP (cl : List Hi.C) (hl : cl.length ≤ 10) (hro : ∀ i, i < cl.length → RngO (opC (cl.getD i default))) : ∀ f, RunOkP cl f
 | 0 => fun _ _ _ _ _ _ h _ _ _ _ => absurd h (Nat.not_lt_zero _)
 | f + 1 => fun s used b g hs hb hfr hu hg hg2 hacc => a32p cl f s used b g (run_allP cl hl hro f) hs hb hfr hu hg hg2 hacc hl hro _ rfl
end Go.Proofs.YtpcjeaaplidmaaaDoor