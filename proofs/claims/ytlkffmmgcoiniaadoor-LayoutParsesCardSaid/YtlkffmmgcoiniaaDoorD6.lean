/- Contracts of functions of this program, and the plain facts that they rest on. No conditions. -/
import Derived.Test.YtlkffmmgcoiniaaDoorD5
set_option linter.unusedSimpArgs false
set_option linter.unusedVariables false
namespace Go.Proofs.YtlkffmmgcoiniaaDoor
open Go Go.Ab
attribute [local irreducible] callK callF loopQ vstep vskip pickE hideP
attribute [local go_sem] eF rF eS eP eX rX eQ
/-- A layout, as the program has it. -/
structure La where
  nm : List UInt8
  ver : Int
  sl : List S
  ws : Int
def eL (l : La) : PV := .agg [.v (.string (bs l.nm)), .v (.int .i64 l.ver), .view 6 (l.sl.map eS), .v (.int .i64 l.ws)]
attribute [local go_sem] eL vMakeMap vLookup vMapUpdate
theorem c37f (p : Nat × Nat) (f : F) (ht : 1 ≤ f.ty ∧ f.ty ≤ 7) (hs : p.2 ≤ 64) (hW : p.1 ≤ 1000000) (hc : 1 ≤ f.cnt ∧ f.cnt ≤ 3840) : PCalls Tryd.prog 37 [eP p, eF f] (.tup [eS (slotM p f), eP (nextM p f)]) := by
  obtain ⟨nm, ty, cnt⟩ := f
  obtain ⟨c, rfl⟩ := Int.eq_ofNat_of_zero_le (show (0 : Int) ≤ cnt by simp only [] at hc; omega)
  obtain ⟨W, s⟩ := p
  exact c37 W s nm ty c ht hs hW (by simp only [] at hc; omega)
/-- What New has after i fields. -/
structure NS where
  sl : List S
  p : Nat × Nat
  b : Bool
def stepN (s : NS) (f : F) : NS := if s.b = true ∧ f.cnt ≤ 3840 then ⟨s.sl ++ [slotM s.p f], nextM s.p f, decide (((nextM s.p f).1 : Int) < 60)⟩ else ⟨s.sl, s.p, false⟩
def stN (fs : List F) : Nat → NS
  | 0 => ⟨[], (0, 0), true⟩
  | i + 1 => stepN (stN fs i) (fs.getD i default)
theorem stN_t {fs : List F} {i : Nat} (h : (stN fs i).b = true) (h2 : (fs.getD i default).cnt ≤ 3840) : stN fs (i + 1) = ⟨(stN fs i).sl ++ [slotM (stN fs i).p (fs.getD i default)], nextM (stN fs i).p (fs.getD i default), decide (((nextM (stN fs i).p (fs.getD i default)).1 : Int) < 60)⟩ := if_pos ⟨h, h2⟩
theorem stN_f {fs : List F} {i : Nat} (h : (stN fs i).b = false ∨ ¬ (fs.getD i default).cnt ≤ 3840) : stN fs (i + 1) = ⟨(stN fs i).sl, (stN fs i).p, false⟩ := if_neg fun hh => by
  rcases h with h | h
  · rw [h] at hh; simp at hh
  · exact h hh.2
/-- The error of field i. -/
def errF (fs : List F) (i : Nat) : Int :=
  if nameM (fs.getD i default).nm = false then 15
  else if ¬ (1 ≤ (fs.getD i default).ty ∧ (fs.getD i default).ty ≤ 7 ∧ 1 ≤ (fs.getD i default).cnt) then 1
  else if seenF fs i (.string (bs (fs.getD i default).nm)) = true then 6 else 0
def errs (fs : List F) : Nat → Int
  | 0 => 0
  | i + 1 => if errs fs i = 0 then errF fs i else errs fs i
theorem errs_zero {fs : List F} : ∀ {n : Nat}, errs fs n = 0 ↔ ∀ k, k < n → errF fs k = 0
  | 0 => ⟨fun _ k hk => absurd hk (by omega), fun _ => rfl⟩
  | n + 1 => by
    rw [errs]
    split
    · rename_i h
      have ih := errs_zero.1 h
      constructor
      · intro h2 k hk
        rcases Nat.lt_or_ge k n with h3 | h3
        · exact ih k h3
        · obtain rfl : k = n := by omega
          exact h2
      · intro h2; exact h2 n (by omega)
    · rename_i h
      constructor
      · intro h2; exact absurd h2 h
      · intro h2; exact absurd (errs_zero.2 fun k hk => h2 k (by omega)) h
theorem errs_at {fs : List F} {i : Nat} (h : ∀ k, k < i → errF fs k = 0) (he : errF fs i ≠ 0) : ∀ {n : Nat}, i < n → errs fs n = errF fs i
  | 0, hn => absurd hn (by omega)
  | n + 1, hn => by
    rw [errs]
    rcases Nat.lt_or_ge i n with h3 | h3
    · have := errs_at h he h3
      rw [this, if_neg he]
    · obtain rfl : i = n := by omega
      rw [if_pos (errs_zero.2 h)]
/-- The error of New. -/
def newE (x : X) : Int :=
  if nameM x.nm = false then 15 else if x.ver < 1 ∨ 65535 < x.ver ∨ x.fs.length = 0 then 1
  else if errs x.fs x.fs.length ≠ 0 then errs x.fs x.fs.length else if (stN x.fs x.fs.length).b = true then 0 else 9
def layM (x : X) : La := if newE x = 0 then ⟨x.nm, x.ver, (stN x.fs x.fs.length).sl, (stN x.fs x.fs.length).p.1 + 1⟩ else ⟨[], 0, [], 0⟩
theorem newE_nm {x : X} (h : nameM x.nm = false) : newE x = 15 := if_pos h
theorem newE_arg {x : X} (h0 : nameM x.nm = true) (h : x.ver < 1 ∨ 65535 < x.ver ∨ x.fs.length = 0) : newE x = 1 := by unfold newE; rw [if_neg (by rw [h0]; simp), if_pos h]
theorem newE_err {x : X} (h0 : nameM x.nm = true) (h : ¬ (x.ver < 1 ∨ 65535 < x.ver ∨ x.fs.length = 0)) (h2 : errs x.fs x.fs.length ≠ 0) : newE x = errs x.fs x.fs.length := by
  unfold newE; rw [if_neg (by rw [h0]; simp), if_neg h, if_pos h2]
theorem newE_fit {x : X} (h0 : nameM x.nm = true) (h : ¬ (x.ver < 1 ∨ 65535 < x.ver ∨ x.fs.length = 0)) (h2 : errs x.fs x.fs.length = 0) : newE x = if (stN x.fs x.fs.length).b = true then 0 else 9 := by
  unfold newE; rw [if_neg (by rw [h0]; simp), if_neg h, if_neg (by simp [h2])]
theorem lay_bad {x : X} (h : newE x ≠ 0) : layM x = ⟨[], 0, [], 0⟩ := if_neg h
theorem lay_ok {x : X} (h : newE x = 0) : layM x = ⟨x.nm, x.ver, (stN x.fs x.fs.length).sl, (stN x.fs x.fs.length).p.1 + 1⟩ := if_pos h
theorem stN_le {fs : List F} {n : Nat} (he : ∀ k, k < n → 1 ≤ (fs.getD k default).cnt) : ∀ i, i ≤ n → (stN fs i).p.2 ≤ 64 ∧ (stN fs i).p.1 ≤ 60 + 3842 ∧ ((stN fs i).b = true → (stN fs i).p.1 < 60) ∧ (stN fs i).sl.length ≤ i
  | 0, _ => ⟨Nat.zero_le _, Nat.zero_le _, fun _ => by show 0 < 60; decide, Nat.le_refl _⟩
  | i + 1, hi => by
    have ih := stN_le he i (by omega)
    have h1 := he i (by omega)
    by_cases hb : (stN fs i).b = true
    · by_cases hc : (fs.getD i default).cnt ≤ 3840
      · rw [stN_t hb hc]
        have := run_ok (wok (fs.getD i default).ty) ih.1 (fs.getD i default).cnt.toNat
        rw [← next_run h1] at this
        have h60 := ih.2.2.1 hb
        exact ⟨this.1, by show (nextM _ _).1 ≤ _; omega, fun h => by have := of_decide_eq_true h; show (nextM _ _).1 < 60; omega, by simp; omega⟩
      · rw [stN_f (.inr hc)]
        exact ⟨ih.1, ih.2.1, fun h => by simp at h, by have := ih.2.2.2; simp only []; omega⟩
    · rw [stN_f (.inl (by simpa using hb))]
      exact ⟨ih.1, ih.2.1, fun h => by simp at h, by have := ih.2.2.2; simp only []; omega⟩
theorem okF {fs : List F} {i : Nat} (h : errF fs i = 0) : nameM (fs.getD i default).nm = true ∧ (1 ≤ (fs.getD i default).ty ∧ (fs.getD i default).ty ≤ 7 ∧ 1 ≤ (fs.getD i default).cnt) ∧ seenF fs i (.string (bs (fs.getD i default).nm)) = false := by
  unfold errF at h
  split at h
  · simp at h
  · split at h
    · simp at h
    · split at h
      · simp at h
      · rename_i h1 h2 h3
        exact ⟨by simpa using h1, by simpa using h2, by simpa using h3⟩
theorem wT_pos {t : Int} (h : 1 ≤ t ∧ t ≤ 7) : wT t = (wN t : Int) := by rw [wT_eq h, wM_wN]
theorem wT_bad {t : Int} (h0 : 0 ≤ t ∧ t < 256) (h : ¬ (1 ≤ t ∧ t ≤ 7)) : wT t = 0 := wT_zero (by omega)
set_option maxRecDepth 100000 in
set_option maxHeartbeats 4000000 in
theorem c14 (x : X) (hl : x.fs.length ≤ 1000000) (ht : ∀ i, i < x.fs.length → 0 ≤ (x.fs.getD i default).ty ∧ (x.fs.getD i default).ty < 256) : PCalls Tryd.prog 14 [.v (.string (bs x.nm)), .v (.int .i64 x.ver), .view 3 (x.fs.map eF)] (.tup [eL (layM x), .v (.int .i64 (newE x))]) := by
  refine pcalls_facts ⟨_, rfl, rfl, by decide⟩ fun hf => ?_
  simp only [go_sem, big] at hf
  refine pcalls_of (E := E) (fn := Tryd.f14) 93 [.cell 6 29, .tmp 7] rfl rfl rfl rfl (by decide) rfl ?_
  by_cases h0 : nameM x.nm = true
  · by_cases h1 : x.ver < 1 ∨ 65535 < x.ver ∨ x.fs.length = 0
    · have e := newE_arg h0 h1
      have el := lay_bad (x := x) (by omega)
      repeat' (first
        | (with_reducible first | refine r_seq ?_ | refine r_block ?_ | refine fork_not ?_ | refine fork_and ?_ | refine fork_or ?_ | refine chk_ok (by kernel_rfl) ?_)
        | ((with_reducible first | refine fork_dec ?_ ?_ | refine fork_eq ?_ ?_ | refine fork_ne ?_ ?_ | refine fork_intro ?_ ?_) <;> intro h <;> try (exfalso; first | omega | exact h rfl | (revert h; decide) | (cases h; done)))
        | ((with_reducible show False); omega)
        | ((first | (with_reducible first | refine r_exit ?_ | refine r_skip ?_ | refine r_cond ?_ | refine r_region ?_ | show VX _ _ _ _ _ _ _ | show vstep _ _ _ _ _ | show vskip _ _ _ | show withV _ _) | ((with_reducible show endA _ _ _ _ _ _ _); simp -implicitDefEqProofs only [endA])); simp -dsimp -implicitDefEqProofs (maxSteps := 1000000) (disch := first | omega | (simp only [LN, h0, e, el]; omega)) only [go_sem, Int.reduceToNat, Int.reducePow, Nat.reducePow, Int.reduceAdd, Int.reduceMul, Int.reduceSub, Int.reduceNeg, Nat.reduceAdd, Nat.reduceMul, Nat.reduceSub, Nat.reduceEqDiff, Nat.reduceLT, Nat.reduceLeDiff, h0, e, el])
        | ((first | (with_reducible refine r_ret ?_) | (with_reducible refine pick_viewG default (by first | omega | (simp only [LN, h0, e, el]; omega)) (by first | omega | (simp only [LN, h0, e, el]; omega)) ?_) | (with_reducible refine pick_own default (by first | omega | (simp only [LN, h0, e, el]; omega)) ?_) | (with_reducible refine And.intro (by first | decide | omega | assumption | (simp only [LN, h0, e, el]; omega)) ?_) | ((with_reducible apply callK_pure); (exact c35 _)) | ((with_reducible apply callF_lend); (exact c35 _); rfl) | ((with_reducible apply callF_go); (exact c35 _)) | ((with_reducible show pickE _ _ _); first | refine pickE_intro _ ⟨by omega, by rfl⟩ ?_ | refine pickE_intro _ (by rfl) ?_) | fail); try simp -dsimp -implicitDefEqProofs (maxSteps := 1000000) (disch := first | omega | (simp only [LN, h0, e, el]; omega)) only [go_sem, Int.reduceToNat, Int.reducePow, Nat.reducePow, Int.reduceAdd, Int.reduceMul, Int.reduceSub, Int.reduceNeg, Nat.reduceAdd, Nat.reduceMul, Nat.reduceSub, Nat.reduceEqDiff, Nat.reduceLT, Nat.reduceLeDiff, h0, e, el])
        | fail)
      all_goals first | omega | trace_state
    · repeat' (first
        | (with_reducible first | refine r_seq ?_ | refine r_block ?_ | refine fork_not ?_ | refine fork_and ?_ | refine fork_or ?_ | refine chk_ok (by kernel_rfl) ?_)
        | ((with_reducible first | refine fork_dec ?_ ?_ | refine fork_eq ?_ ?_ | refine fork_ne ?_ ?_ | refine fork_intro ?_ ?_) <;> intro h <;> try (exfalso; first | omega | exact h rfl | (revert h; decide) | (cases h; done)))
        | ((with_reducible show False); omega)
        | ((first | (with_reducible first | refine r_exit ?_ | refine r_skip ?_ | refine r_cond ?_ | refine r_region ?_ | show VX _ _ _ _ _ _ _ | show vstep _ _ _ _ _ | show vskip _ _ _ | show withV _ _) | ((with_reducible show endA _ _ _ _ _ _ _); simp -implicitDefEqProofs only [endA])); simp -dsimp -implicitDefEqProofs (maxSteps := 1000000) (disch := first | omega | (simp only [LN, h0]; omega)) only [go_sem, Int.reduceToNat, Int.reducePow, Nat.reducePow, Int.reduceAdd, Int.reduceMul, Int.reduceSub, Int.reduceNeg, Nat.reduceAdd, Nat.reduceMul, Nat.reduceSub, Nat.reduceEqDiff, Nat.reduceLT, Nat.reduceLeDiff, h0])
        | ((first | (with_reducible refine r_ret ?_) | (with_reducible refine pick_viewG default (by first | omega | (simp only [LN, h0]; omega)) (by first | omega | (simp only [LN, h0]; omega)) ?_) | (with_reducible refine pick_own default (by first | omega | (simp only [LN, h0]; omega)) ?_) | (with_reducible refine And.intro (by first | decide | omega | assumption | (simp only [LN, h0]; omega)) ?_) | ((with_reducible apply callK_pure); (exact c35 _)) | ((with_reducible apply callF_lend); (exact c35 _); rfl) | ((with_reducible apply callF_go); (exact c35 _)) | ((with_reducible show pickE _ _ _); first | refine pickE_intro _ ⟨by omega, by rfl⟩ ?_ | refine pickE_intro _ (by rfl) ?_) | fail); try simp -dsimp -implicitDefEqProofs (maxSteps := 1000000) (disch := first | omega | (simp only [LN, h0]; omega)) only [go_sem, Int.reduceToNat, Int.reducePow, Nat.reducePow, Int.reduceAdd, Int.reduceMul, Int.reduceSub, Int.reduceNeg, Nat.reduceAdd, Nat.reduceMul, Nat.reduceSub, Nat.reduceEqDiff, Nat.reduceLT, Nat.reduceLeDiff, h0])
        | fail)
      refine r_loopA (α := Nat) [0, 1, 6, 8, 10, 32, 33] (fun i b => [(9, .sl b 6 0 (stN x.fs i).sl.length), (11, aB (stN x.fs i).b), (34, aI i)]) (fun i b => [(8, .mp none (.b (seenF x.fs i))), (10, .var [aI (stN x.fs i).p.1, aI (stN x.fs i).p.2])]) (fun i => [.arr 6 ((stN x.fs i).sl.map eS)]) (fun i => i ≤ x.fs.length ∧ ∀ k, k < i → errF x.fs k = 0) (fun i => x.fs.length - i) (0) ?h0_1 ?hs0_1 ?I_1 ?hI_1 ?round_1
      case hI_1 => intro x; (simp -dsimp -implicitDefEqProofs (maxSteps := 1000000) (disch := first | omega | (simp only [LN]; omega)) only [go_sem, Int.reduceToNat, Int.reducePow, Nat.reducePow, Int.reduceAdd, Int.reduceMul, Int.reduceSub, Int.reduceNeg, Nat.reduceAdd, Nat.reduceMul, Nat.reduceSub, Nat.reduceEqDiff, Nat.reduceLT, Nat.reduceLeDiff]) <;> exact rfl
      case hs0_1 => refine wk_auto ?_; (simp -dsimp -implicitDefEqProofs (maxSteps := 1000000) (disch := first | omega | (simp only [LN, seen_0, stN]; omega)) only [go_sem, Int.reduceToNat, Int.reducePow, Nat.reducePow, Int.reduceAdd, Int.reduceMul, Int.reduceSub, Int.reduceNeg, Nat.reduceAdd, Nat.reduceMul, Nat.reduceSub, Nat.reduceEqDiff, Nat.reduceLT, Nat.reduceLeDiff, seen_0, stN]) <;> (try omega)
      case h0_1 => exact ⟨Nat.zero_le _, fun k hk => absurd hk (by omega)⟩
      case round_1 =>
        intro i hi
        obtain ⟨hi1, hi2⟩ := hi
        have hcl : ∀ k, k < i → 1 ≤ (x.fs.getD k default).cnt := fun k hk => (okF (hi2 k hk)).2.1.2.2
        have hst := stN_le hcl i (Nat.le_refl _)
        by_cases hi3 : i < x.fs.length
        · have hti := ht i hi3
          by_cases he : errF x.fs i = 0
          · obtain ⟨hnm, hty, hseen⟩ := okF he
            have hgo : ∀ k, k < i + 1 → errF x.fs k = 0 := fun k hk => by
              rcases Nat.lt_or_ge k i with h3 | h3
              · exact hi2 k h3
              · obtain rfl : k = i := by omega
                exact he
            have hwt := wT_pos ⟨hty.1, hty.2.1⟩
            have hwn : wN (x.fs.getD i default).ty ≠ 0 := by rcases wN_cases (x.fs.getD i default).ty with h | h | h | h | h <;> omega
            have c36w := c36 _ hti
            rw [hwt] at c36w
            by_cases hb : (stN x.fs i).b = true
            · by_cases hc : (x.fs.getD i default).cnt ≤ 3840
              · have c37w := c37f (stN x.fs i).p (x.fs.getD i default) ⟨hty.1, hty.2.1⟩ hst.1 (by omega) ⟨hty.2.2, hc⟩
                have es := stN_t hb hc
                repeat' (first
                  | (with_reducible first | refine r_seq ?_ | refine r_block ?_ | refine fork_not ?_ | refine fork_and ?_ | refine fork_or ?_ | refine chk_ok (by kernel_rfl) ?_)
                  | ((with_reducible first | refine fork_dec ?_ ?_ | refine fork_eq ?_ ?_ | refine fork_ne ?_ ?_ | refine fork_intro ?_ ?_) <;> intro h <;> try (exfalso; first | omega | exact h rfl | (revert h; decide) | (cases h; done)))
                  | ((with_reducible show False); omega)
                  | ((first | (with_reducible first | refine r_exit ?_ | refine r_skip ?_ | refine r_cond ?_ | refine r_region ?_ | show VX _ _ _ _ _ _ _ | show vstep _ _ _ _ _ | show vskip _ _ _ | show withV _ _) | ((with_reducible show endA _ _ _ _ _ _ _); simp -implicitDefEqProofs only [endA])); simp -dsimp -implicitDefEqProofs (maxSteps := 1000000) (disch := first | omega | (simp only [LN, hnm, hseen, hb]; omega)) only [go_sem, Int.reduceToNat, Int.reducePow, Nat.reducePow, Int.reduceAdd, Int.reduceMul, Int.reduceSub, Int.reduceNeg, Nat.reduceAdd, Nat.reduceMul, Nat.reduceSub, Nat.reduceEqDiff, Nat.reduceLT, Nat.reduceLeDiff, hnm, hseen, hb])
                  | ((first | (with_reducible refine r_ret ?_) | (with_reducible refine pick_viewG default (by first | omega | (simp only [LN, hnm, hseen, hb]; omega)) (by first | omega | (simp only [LN, hnm, hseen, hb]; omega)) ?_) | (with_reducible refine pick_own default (by first | omega | (simp only [LN, hnm, hseen, hb]; omega)) ?_) | (with_reducible refine And.intro (by first | decide | omega | assumption | (simp only [LN, hnm, hseen, hb]; omega)) ?_) | ((with_reducible apply callK_pure); (first | exact c35 _ | exact c36w | exact c37w | fail)) | ((with_reducible apply callF_lend); (first | exact c35 _ | exact c36w | exact c37w | fail); rfl) | ((with_reducible apply callF_go); (first | exact c35 _ | exact c36w | exact c37w | fail)) | ((with_reducible show pickE _ _ _); first | refine pickE_intro _ ⟨by omega, by rfl⟩ ?_ | refine pickE_intro _ (by rfl) ?_) | fail); try simp -dsimp -implicitDefEqProofs (maxSteps := 1000000) (disch := first | omega | (simp only [LN, hnm, hseen, hb]; omega)) only [go_sem, Int.reduceToNat, Int.reducePow, Nat.reducePow, Int.reduceAdd, Int.reduceMul, Int.reduceSub, Int.reduceNeg, Nat.reduceAdd, Nat.reduceMul, Nat.reduceSub, Nat.reduceEqDiff, Nat.reduceLT, Nat.reduceLeDiff, hnm, hseen, hb])
                  | fail)
                all_goals first
                  | omega
                  | (refine loopQ_next (i + 1) ?_ ?_ ?_; (exact ⟨by omega, hgo⟩); (show _ < _; omega); (simp -dsimp -implicitDefEqProofs (maxSteps := 1000000) (disch := first | omega | (simp only [LN, seen_step, es, List.map_append, List.map_cons, List.map_nil, List.length_append, List.length_singleton]; omega)) only [go_sem, Int.reduceToNat, Int.reducePow, Nat.reducePow, Int.reduceAdd, Int.reduceMul, Int.reduceSub, Int.reduceNeg, Nat.reduceAdd, Nat.reduceMul, Nat.reduceSub, Nat.reduceEqDiff, Nat.reduceLT, Nat.reduceLeDiff, seen_step, es, List.map_append, List.map_cons, List.map_nil, List.length_append, List.length_singleton]; try trivial))
                  | trace_state
              · have es := stN_f (fs := x.fs) (i := i) (.inr hc)
                have hd : decide ((x.fs.getD i default).cnt ≤ 3840) = false := decide_eq_false hc
                repeat' (first
                  | (with_reducible first | refine r_seq ?_ | refine r_block ?_ | refine fork_not ?_ | refine fork_and ?_ | refine fork_or ?_ | refine chk_ok (by kernel_rfl) ?_)
                  | ((with_reducible first | refine fork_dec ?_ ?_ | refine fork_eq ?_ ?_ | refine fork_ne ?_ ?_ | refine fork_intro ?_ ?_) <;> intro h <;> try (exfalso; first | omega | exact h rfl | (revert h; decide) | (cases h; done)))
                  | ((with_reducible show False); omega)
                  | ((first | (with_reducible first | refine r_exit ?_ | refine r_skip ?_ | refine r_cond ?_ | refine r_region ?_ | show VX _ _ _ _ _ _ _ | show vstep _ _ _ _ _ | show vskip _ _ _ | show withV _ _) | ((with_reducible show endA _ _ _ _ _ _ _); simp -implicitDefEqProofs only [endA])); simp -dsimp -implicitDefEqProofs (maxSteps := 1000000) (disch := first | omega | (simp only [LN, hnm, hseen, hb]; omega)) only [go_sem, Int.reduceToNat, Int.reducePow, Nat.reducePow, Int.reduceAdd, Int.reduceMul, Int.reduceSub, Int.reduceNeg, Nat.reduceAdd, Nat.reduceMul, Nat.reduceSub, Nat.reduceEqDiff, Nat.reduceLT, Nat.reduceLeDiff, hnm, hseen, hb])
                  | ((first | (with_reducible refine r_ret ?_) | (with_reducible refine pick_viewG default (by first | omega | (simp only [LN, hnm, hseen, hb]; omega)) (by first | omega | (simp only [LN, hnm, hseen, hb]; omega)) ?_) | (with_reducible refine pick_own default (by first | omega | (simp only [LN, hnm, hseen, hb]; omega)) ?_) | (with_reducible refine And.intro (by first | decide | omega | assumption | (simp only [LN, hnm, hseen, hb]; omega)) ?_) | ((with_reducible apply callK_pure); (first | exact c35 _ | exact c36w | fail)) | ((with_reducible apply callF_lend); (first | exact c35 _ | exact c36w | fail); rfl) | ((with_reducible apply callF_go); (first | exact c35 _ | exact c36w | fail)) | ((with_reducible show pickE _ _ _); first | refine pickE_intro _ ⟨by omega, by rfl⟩ ?_ | refine pickE_intro _ (by rfl) ?_) | fail); try simp -dsimp -implicitDefEqProofs (maxSteps := 1000000) (disch := first | omega | (simp only [LN, hnm, hseen, hb]; omega)) only [go_sem, Int.reduceToNat, Int.reducePow, Nat.reducePow, Int.reduceAdd, Int.reduceMul, Int.reduceSub, Int.reduceNeg, Nat.reduceAdd, Nat.reduceMul, Nat.reduceSub, Nat.reduceEqDiff, Nat.reduceLT, Nat.reduceLeDiff, hnm, hseen, hb])
                  | fail)
                all_goals first
                  | omega
                  | (refine loopQ_next (i + 1) ?_ ?_ ?_; (exact ⟨by omega, hgo⟩); (show _ < _; omega); (simp -dsimp -implicitDefEqProofs (maxSteps := 1000000) (disch := first | omega | (simp only [LN, seen_step, es, hd]; omega)) only [go_sem, Int.reduceToNat, Int.reducePow, Nat.reducePow, Int.reduceAdd, Int.reduceMul, Int.reduceSub, Int.reduceNeg, Nat.reduceAdd, Nat.reduceMul, Nat.reduceSub, Nat.reduceEqDiff, Nat.reduceLT, Nat.reduceLeDiff, seen_step, es, hd]; try trivial))
                  | trace_state
            · have hb : (stN x.fs i).b = false := by simpa using hb
              have es := stN_f (fs := x.fs) (i := i) (.inl hb)
              repeat' (first
                | (with_reducible first | refine r_seq ?_ | refine r_block ?_ | refine fork_not ?_ | refine fork_and ?_ | refine fork_or ?_ | refine chk_ok (by kernel_rfl) ?_)
                | ((with_reducible first | refine fork_dec ?_ ?_ | refine fork_eq ?_ ?_ | refine fork_ne ?_ ?_ | refine fork_intro ?_ ?_) <;> intro h <;> try (exfalso; first | omega | exact h rfl | (revert h; decide) | (cases h; done)))
                | ((with_reducible show False); omega)
                | ((first | (with_reducible first | refine r_exit ?_ | refine r_skip ?_ | refine r_cond ?_ | refine r_region ?_ | show VX _ _ _ _ _ _ _ | show vstep _ _ _ _ _ | show vskip _ _ _ | show withV _ _) | ((with_reducible show endA _ _ _ _ _ _ _); simp -implicitDefEqProofs only [endA])); simp -dsimp -implicitDefEqProofs (maxSteps := 1000000) (disch := first | omega | (simp only [LN, hnm, hseen, hb]; omega)) only [go_sem, Int.reduceToNat, Int.reducePow, Nat.reducePow, Int.reduceAdd, Int.reduceMul, Int.reduceSub, Int.reduceNeg, Nat.reduceAdd, Nat.reduceMul, Nat.reduceSub, Nat.reduceEqDiff, Nat.reduceLT, Nat.reduceLeDiff, hnm, hseen, hb])
                | ((first | (with_reducible refine r_ret ?_) | (with_reducible refine pick_viewG default (by first | omega | (simp only [LN, hnm, hseen, hb]; omega)) (by first | omega | (simp only [LN, hnm, hseen, hb]; omega)) ?_) | (with_reducible refine pick_own default (by first | omega | (simp only [LN, hnm, hseen, hb]; omega)) ?_) | (with_reducible refine And.intro (by first | decide | omega | assumption | (simp only [LN, hnm, hseen, hb]; omega)) ?_) | ((with_reducible apply callK_pure); (first | exact c35 _ | exact c36w | fail)) | ((with_reducible apply callF_lend); (first | exact c35 _ | exact c36w | fail); rfl) | ((with_reducible apply callF_go); (first | exact c35 _ | exact c36w | fail)) | ((with_reducible show pickE _ _ _); first | refine pickE_intro _ ⟨by omega, by rfl⟩ ?_ | refine pickE_intro _ (by rfl) ?_) | fail); try simp -dsimp -implicitDefEqProofs (maxSteps := 1000000) (disch := first | omega | (simp only [LN, hnm, hseen, hb]; omega)) only [go_sem, Int.reduceToNat, Int.reducePow, Nat.reducePow, Int.reduceAdd, Int.reduceMul, Int.reduceSub, Int.reduceNeg, Nat.reduceAdd, Nat.reduceMul, Nat.reduceSub, Nat.reduceEqDiff, Nat.reduceLT, Nat.reduceLeDiff, hnm, hseen, hb])
                | fail)
              all_goals first
                | omega
                | (refine loopQ_next (i + 1) ?_ ?_ ?_; (exact ⟨by omega, hgo⟩); (show _ < _; omega); (simp -dsimp -implicitDefEqProofs (maxSteps := 1000000) (disch := first | omega | (simp only [LN, seen_step, es]; omega)) only [go_sem, Int.reduceToNat, Int.reducePow, Nat.reducePow, Int.reduceAdd, Int.reduceMul, Int.reduceSub, Int.reduceNeg, Nat.reduceAdd, Nat.reduceMul, Nat.reduceSub, Nat.reduceEqDiff, Nat.reduceLT, Nat.reduceLeDiff, seen_step, es]; try trivial))
                | trace_state
          · have e1 := errs_at hi2 he hi3
            have e := newE_err h0 h1 (by omega)
            have el := lay_bad (x := x) (by omega)
            rw [e1] at e
            by_cases hnm : nameM (x.fs.getD i default).nm = true
            · by_cases hty : 1 ≤ (x.fs.getD i default).ty ∧ (x.fs.getD i default).ty ≤ 7 ∧ 1 ≤ (x.fs.getD i default).cnt
              · have hwt := wT_pos ⟨hty.1, hty.2.1⟩
                have hwn : wN (x.fs.getD i default).ty ≠ 0 := by rcases wN_cases (x.fs.getD i default).ty with h | h | h | h | h <;> omega
                have c36w := c36 _ hti
                rw [hwt] at c36w
                have hseen : seenF x.fs i (.string (bs (x.fs.getD i default).nm)) = true := by
                  unfold errF at he
                  rw [if_neg (by rw [hnm]; simp), if_neg (by simpa using hty)] at he
                  split at he
                  · assumption
                  · exact absurd rfl he
                have e2 : errF x.fs i = 6 := by unfold errF; rw [if_neg (by rw [hnm]; simp), if_neg (by simpa using hty), if_pos hseen]
                repeat' (first
                  | (with_reducible first | refine r_seq ?_ | refine r_block ?_ | refine fork_not ?_ | refine fork_and ?_ | refine fork_or ?_ | refine chk_ok (by kernel_rfl) ?_)
                  | ((with_reducible first | refine fork_dec ?_ ?_ | refine fork_eq ?_ ?_ | refine fork_ne ?_ ?_ | refine fork_intro ?_ ?_) <;> intro h <;> try (exfalso; first | omega | exact h rfl | (revert h; decide) | (cases h; done)))
                  | ((with_reducible show False); omega)
                  | ((first | (with_reducible first | refine r_exit ?_ | refine r_skip ?_ | refine r_cond ?_ | refine r_region ?_ | show VX _ _ _ _ _ _ _ | show vstep _ _ _ _ _ | show vskip _ _ _ | show withV _ _) | ((with_reducible show endA _ _ _ _ _ _ _); simp -implicitDefEqProofs only [endA])); simp -dsimp -implicitDefEqProofs (maxSteps := 1000000) (disch := first | omega | (simp only [LN, hnm, hseen, e, el, e2]; omega)) only [go_sem, Int.reduceToNat, Int.reducePow, Nat.reducePow, Int.reduceAdd, Int.reduceMul, Int.reduceSub, Int.reduceNeg, Nat.reduceAdd, Nat.reduceMul, Nat.reduceSub, Nat.reduceEqDiff, Nat.reduceLT, Nat.reduceLeDiff, hnm, hseen, e, el, e2])
                  | ((first | (with_reducible refine r_ret ?_) | (with_reducible refine pick_viewG default (by first | omega | (simp only [LN, hnm, hseen, e, el, e2]; omega)) (by first | omega | (simp only [LN, hnm, hseen, e, el, e2]; omega)) ?_) | (with_reducible refine pick_own default (by first | omega | (simp only [LN, hnm, hseen, e, el, e2]; omega)) ?_) | (with_reducible refine And.intro (by first | decide | omega | assumption | (simp only [LN, hnm, hseen, e, el, e2]; omega)) ?_) | ((with_reducible apply callK_pure); (first | exact c35 _ | exact c36w | fail)) | ((with_reducible apply callF_lend); (first | exact c35 _ | exact c36w | fail); rfl) | ((with_reducible apply callF_go); (first | exact c35 _ | exact c36w | fail)) | ((with_reducible show pickE _ _ _); first | refine pickE_intro _ ⟨by omega, by rfl⟩ ?_ | refine pickE_intro _ (by rfl) ?_) | fail); try simp -dsimp -implicitDefEqProofs (maxSteps := 1000000) (disch := first | omega | (simp only [LN, hnm, hseen, e, el, e2]; omega)) only [go_sem, Int.reduceToNat, Int.reducePow, Nat.reducePow, Int.reduceAdd, Int.reduceMul, Int.reduceSub, Int.reduceNeg, Nat.reduceAdd, Nat.reduceMul, Nat.reduceSub, Nat.reduceEqDiff, Nat.reduceLT, Nat.reduceLeDiff, hnm, hseen, e, el, e2])
                  | fail)
                all_goals first | omega | trace_state
              · have e2 : errF x.fs i = 1 := by unfold errF; rw [if_neg (by rw [hnm]; simp), if_pos hty]
                have hcase : wT (x.fs.getD i default).ty = 0 ∨ (wT (x.fs.getD i default).ty ≠ 0 ∧ (x.fs.getD i default).cnt < 1) := by
                  by_cases ht7 : 1 ≤ (x.fs.getD i default).ty ∧ (x.fs.getD i default).ty ≤ 7
                  · have hwn : wN (x.fs.getD i default).ty ≠ 0 := by rcases wN_cases (x.fs.getD i default).ty with h | h | h | h | h <;> omega
                    have := wT_pos ht7
                    exact .inr ⟨by omega, by omega⟩
                  · exact .inl (wT_bad hti ht7)
                have c36w := c36 _ hti
                repeat' (first
                  | (with_reducible first | refine r_seq ?_ | refine r_block ?_ | refine fork_not ?_ | refine fork_and ?_ | refine fork_or ?_ | refine chk_ok (by kernel_rfl) ?_)
                  | ((with_reducible first | refine fork_dec ?_ ?_ | refine fork_eq ?_ ?_ | refine fork_ne ?_ ?_ | refine fork_intro ?_ ?_) <;> intro h <;> try (exfalso; first | omega | exact h rfl | (revert h; decide) | (cases h; done)))
                  | ((with_reducible show False); omega)
                  | ((first | (with_reducible first | refine r_exit ?_ | refine r_skip ?_ | refine r_cond ?_ | refine r_region ?_ | show VX _ _ _ _ _ _ _ | show vstep _ _ _ _ _ | show vskip _ _ _ | show withV _ _) | ((with_reducible show endA _ _ _ _ _ _ _); simp -implicitDefEqProofs only [endA])); simp -dsimp -implicitDefEqProofs (maxSteps := 1000000) (disch := first | omega | (simp only [LN, hnm, e, el, e2]; omega)) only [go_sem, Int.reduceToNat, Int.reducePow, Nat.reducePow, Int.reduceAdd, Int.reduceMul, Int.reduceSub, Int.reduceNeg, Nat.reduceAdd, Nat.reduceMul, Nat.reduceSub, Nat.reduceEqDiff, Nat.reduceLT, Nat.reduceLeDiff, hnm, e, el, e2])
                  | ((first | (with_reducible refine r_ret ?_) | (with_reducible refine pick_viewG default (by first | omega | (simp only [LN, hnm, e, el, e2]; omega)) (by first | omega | (simp only [LN, hnm, e, el, e2]; omega)) ?_) | (with_reducible refine pick_own default (by first | omega | (simp only [LN, hnm, e, el, e2]; omega)) ?_) | (with_reducible refine And.intro (by first | decide | omega | assumption | (simp only [LN, hnm, e, el, e2]; omega)) ?_) | ((with_reducible apply callK_pure); (first | exact c35 _ | exact c36w | fail)) | ((with_reducible apply callF_lend); (first | exact c35 _ | exact c36w | fail); rfl) | ((with_reducible apply callF_go); (first | exact c35 _ | exact c36w | fail)) | ((with_reducible show pickE _ _ _); first | refine pickE_intro _ ⟨by omega, by rfl⟩ ?_ | refine pickE_intro _ (by rfl) ?_) | fail); try simp -dsimp -implicitDefEqProofs (maxSteps := 1000000) (disch := first | omega | (simp only [LN, hnm, e, el, e2]; omega)) only [go_sem, Int.reduceToNat, Int.reducePow, Nat.reducePow, Int.reduceAdd, Int.reduceMul, Int.reduceSub, Int.reduceNeg, Nat.reduceAdd, Nat.reduceMul, Nat.reduceSub, Nat.reduceEqDiff, Nat.reduceLT, Nat.reduceLeDiff, hnm, e, el, e2])
                  | fail)
                all_goals first | omega | trace_state
            · have hnm : nameM (x.fs.getD i default).nm = false := by simpa using hnm
              have e2 : errF x.fs i = 15 := by unfold errF; rw [if_pos hnm]
              repeat' (first
                | (with_reducible first | refine r_seq ?_ | refine r_block ?_ | refine fork_not ?_ | refine fork_and ?_ | refine fork_or ?_ | refine chk_ok (by kernel_rfl) ?_)
                | ((with_reducible first | refine fork_dec ?_ ?_ | refine fork_eq ?_ ?_ | refine fork_ne ?_ ?_ | refine fork_intro ?_ ?_) <;> intro h <;> try (exfalso; first | omega | exact h rfl | (revert h; decide) | (cases h; done)))
                | ((with_reducible show False); omega)
                | ((first | (with_reducible first | refine r_exit ?_ | refine r_skip ?_ | refine r_cond ?_ | refine r_region ?_ | show VX _ _ _ _ _ _ _ | show vstep _ _ _ _ _ | show vskip _ _ _ | show withV _ _) | ((with_reducible show endA _ _ _ _ _ _ _); simp -implicitDefEqProofs only [endA])); simp -dsimp -implicitDefEqProofs (maxSteps := 1000000) (disch := first | omega | (simp only [LN, hnm, e, el, e2]; omega)) only [go_sem, Int.reduceToNat, Int.reducePow, Nat.reducePow, Int.reduceAdd, Int.reduceMul, Int.reduceSub, Int.reduceNeg, Nat.reduceAdd, Nat.reduceMul, Nat.reduceSub, Nat.reduceEqDiff, Nat.reduceLT, Nat.reduceLeDiff, hnm, e, el, e2])
                | ((first | (with_reducible refine r_ret ?_) | (with_reducible refine pick_viewG default (by first | omega | (simp only [LN, hnm, e, el, e2]; omega)) (by first | omega | (simp only [LN, hnm, e, el, e2]; omega)) ?_) | (with_reducible refine pick_own default (by first | omega | (simp only [LN, hnm, e, el, e2]; omega)) ?_) | (with_reducible refine And.intro (by first | decide | omega | assumption | (simp only [LN, hnm, e, el, e2]; omega)) ?_) | ((with_reducible apply callK_pure); (exact c35 _)) | ((with_reducible apply callF_lend); (exact c35 _); rfl) | ((with_reducible apply callF_go); (exact c35 _)) | ((with_reducible show pickE _ _ _); first | refine pickE_intro _ ⟨by omega, by rfl⟩ ?_ | refine pickE_intro _ (by rfl) ?_) | fail); try simp -dsimp -implicitDefEqProofs (maxSteps := 1000000) (disch := first | omega | (simp only [LN, hnm, e, el, e2]; omega)) only [go_sem, Int.reduceToNat, Int.reducePow, Nat.reducePow, Int.reduceAdd, Int.reduceMul, Int.reduceSub, Int.reduceNeg, Nat.reduceAdd, Nat.reduceMul, Nat.reduceSub, Nat.reduceEqDiff, Nat.reduceLT, Nat.reduceLeDiff, hnm, e, el, e2])
                | fail)
              all_goals first | omega | trace_state
        · obtain rfl : i = x.fs.length := by omega
          have e := newE_fit h0 h1 (errs_zero.2 hi2)
          by_cases hb : (stN x.fs x.fs.length).b = true
          · rw [if_pos hb] at e
            have el := lay_ok e
            repeat' (first
              | (with_reducible first | refine r_seq ?_ | refine r_block ?_ | refine fork_not ?_ | refine fork_and ?_ | refine fork_or ?_ | refine chk_ok (by kernel_rfl) ?_)
              | ((with_reducible first | refine fork_dec ?_ ?_ | refine fork_eq ?_ ?_ | refine fork_ne ?_ ?_ | refine fork_intro ?_ ?_) <;> intro h <;> try (exfalso; first | omega | exact h rfl | (revert h; decide) | (cases h; done)))
              | ((with_reducible show False); omega)
              | ((first | (with_reducible first | refine r_exit ?_ | refine r_skip ?_ | refine r_cond ?_ | refine r_region ?_ | show VX _ _ _ _ _ _ _ | show vstep _ _ _ _ _ | show vskip _ _ _ | show withV _ _) | ((with_reducible show endA _ _ _ _ _ _ _); simp -implicitDefEqProofs only [endA])); simp -dsimp -implicitDefEqProofs (maxSteps := 1000000) (disch := first | omega | (simp only [LN, hb, e, el]; omega)) only [go_sem, Int.reduceToNat, Int.reducePow, Nat.reducePow, Int.reduceAdd, Int.reduceMul, Int.reduceSub, Int.reduceNeg, Nat.reduceAdd, Nat.reduceMul, Nat.reduceSub, Nat.reduceEqDiff, Nat.reduceLT, Nat.reduceLeDiff, hb, e, el])
              | ((first | (with_reducible refine r_ret ?_) | (with_reducible refine pick_viewG default (by first | omega | (simp only [LN, hb, e, el]; omega)) (by first | omega | (simp only [LN, hb, e, el]; omega)) ?_) | (with_reducible refine pick_own default (by first | omega | (simp only [LN, hb, e, el]; omega)) ?_) | (with_reducible refine And.intro (by first | decide | omega | assumption | (simp only [LN, hb, e, el]; omega)) ?_) | ((with_reducible show pickE _ _ _); first | refine pickE_intro _ ⟨by omega, by rfl⟩ ?_ | refine pickE_intro _ (by rfl) ?_) | fail); try simp -dsimp -implicitDefEqProofs (maxSteps := 1000000) (disch := first | omega | (simp only [LN, hb, e, el]; omega)) only [go_sem, Int.reduceToNat, Int.reducePow, Nat.reducePow, Int.reduceAdd, Int.reduceMul, Int.reduceSub, Int.reduceNeg, Nat.reduceAdd, Nat.reduceMul, Nat.reduceSub, Nat.reduceEqDiff, Nat.reduceLT, Nat.reduceLeDiff, hb, e, el])
              | fail)
            all_goals first | omega | trace_state
          · have hb : (stN x.fs x.fs.length).b = false := by simpa using hb
            rw [hb, if_neg (by simp)] at e
            have el := lay_bad (x := x) (by omega)
            repeat' (first
              | (with_reducible first | refine r_seq ?_ | refine r_block ?_ | refine fork_not ?_ | refine fork_and ?_ | refine fork_or ?_ | refine chk_ok (by kernel_rfl) ?_)
              | ((with_reducible first | refine fork_dec ?_ ?_ | refine fork_eq ?_ ?_ | refine fork_ne ?_ ?_ | refine fork_intro ?_ ?_) <;> intro h <;> try (exfalso; first | omega | exact h rfl | (revert h; decide) | (cases h; done)))
              | ((with_reducible show False); omega)
              | ((first | (with_reducible first | refine r_exit ?_ | refine r_skip ?_ | refine r_cond ?_ | refine r_region ?_ | show VX _ _ _ _ _ _ _ | show vstep _ _ _ _ _ | show vskip _ _ _ | show withV _ _) | ((with_reducible show endA _ _ _ _ _ _ _); simp -implicitDefEqProofs only [endA])); simp -dsimp -implicitDefEqProofs (maxSteps := 1000000) (disch := first | omega | (simp only [LN, hb, e, el]; omega)) only [go_sem, Int.reduceToNat, Int.reducePow, Nat.reducePow, Int.reduceAdd, Int.reduceMul, Int.reduceSub, Int.reduceNeg, Nat.reduceAdd, Nat.reduceMul, Nat.reduceSub, Nat.reduceEqDiff, Nat.reduceLT, Nat.reduceLeDiff, hb, e, el])
              | ((first | (with_reducible refine r_ret ?_) | (with_reducible refine pick_viewG default (by first | omega | (simp only [LN, hb, e, el]; omega)) (by first | omega | (simp only [LN, hb, e, el]; omega)) ?_) | (with_reducible refine pick_own default (by first | omega | (simp only [LN, hb, e, el]; omega)) ?_) | (with_reducible refine And.intro (by first | decide | omega | assumption | (simp only [LN, hb, e, el]; omega)) ?_) | ((with_reducible show pickE _ _ _); first | refine pickE_intro _ ⟨by omega, by rfl⟩ ?_ | refine pickE_intro _ (by rfl) ?_) | fail); try simp -dsimp -implicitDefEqProofs (maxSteps := 1000000) (disch := first | omega | (simp only [LN, hb, e, el]; omega)) only [go_sem, Int.reduceToNat, Int.reducePow, Nat.reducePow, Int.reduceAdd, Int.reduceMul, Int.reduceSub, Int.reduceNeg, Nat.reduceAdd, Nat.reduceMul, Nat.reduceSub, Nat.reduceEqDiff, Nat.reduceLT, Nat.reduceLeDiff, hb, e, el])
              | fail)
            all_goals first | omega | trace_state
  · have h0 : nameM x.nm = false := by simpa using h0
    have e := newE_nm h0
    have el := lay_bad (x := x) (by omega)
    repeat' (first
      | (with_reducible first | refine r_seq ?_ | refine r_block ?_ | refine fork_not ?_ | refine fork_and ?_ | refine fork_or ?_ | refine chk_ok (by kernel_rfl) ?_)
      | ((with_reducible first | refine fork_dec ?_ ?_ | refine fork_eq ?_ ?_ | refine fork_ne ?_ ?_ | refine fork_intro ?_ ?_) <;> intro h <;> try (exfalso; first | omega | exact h rfl | (revert h; decide) | (cases h; done)))
      | ((with_reducible show False); omega)
      | ((first | (with_reducible first | refine r_exit ?_ | refine r_skip ?_ | refine r_cond ?_ | refine r_region ?_ | show VX _ _ _ _ _ _ _ | show vstep _ _ _ _ _ | show vskip _ _ _ | show withV _ _) | ((with_reducible show endA _ _ _ _ _ _ _); simp -implicitDefEqProofs only [endA])); simp -dsimp -implicitDefEqProofs (maxSteps := 1000000) (disch := first | omega | (simp only [LN, h0, e, el]; omega)) only [go_sem, Int.reduceToNat, Int.reducePow, Nat.reducePow, Int.reduceAdd, Int.reduceMul, Int.reduceSub, Int.reduceNeg, Nat.reduceAdd, Nat.reduceMul, Nat.reduceSub, Nat.reduceEqDiff, Nat.reduceLT, Nat.reduceLeDiff, h0, e, el])
      | ((first | (with_reducible refine r_ret ?_) | (with_reducible refine pick_viewG default (by first | omega | (simp only [LN, h0, e, el]; omega)) (by first | omega | (simp only [LN, h0, e, el]; omega)) ?_) | (with_reducible refine pick_own default (by first | omega | (simp only [LN, h0, e, el]; omega)) ?_) | (with_reducible refine And.intro (by first | decide | omega | assumption | (simp only [LN, h0, e, el]; omega)) ?_) | ((with_reducible apply callK_pure); (exact c35 _)) | ((with_reducible apply callF_lend); (exact c35 _); rfl) | ((with_reducible apply callF_go); (exact c35 _)) | ((with_reducible show pickE _ _ _); first | refine pickE_intro _ ⟨by omega, by rfl⟩ ?_ | refine pickE_intro _ (by rfl) ?_) | fail); try simp -dsimp -implicitDefEqProofs (maxSteps := 1000000) (disch := first | omega | (simp only [LN, h0, e, el]; omega)) only [go_sem, Int.reduceToNat, Int.reducePow, Nat.reducePow, Int.reduceAdd, Int.reduceMul, Int.reduceSub, Int.reduceNeg, Nat.reduceAdd, Nat.reduceMul, Nat.reduceSub, Nat.reduceEqDiff, Nat.reduceLT, Nat.reduceLeDiff, h0, e, el])
      | fail)
    all_goals first | omega | trace_state
end Go.Proofs.YtlkffmmgcoiniaaDoor
