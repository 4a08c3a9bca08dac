/- Contracts of functions of this program, and the plain facts that they rest on. No conditions. -/
import Derived.Test.YtkmobahedfdikaaDoorD9
set_option linter.unusedSimpArgs false
set_option linter.unusedVariables false
namespace Go.Proofs.YtkmobahedfdikaaDoor
open Go Go.Ab
attribute [local irreducible] callK callF loopQ vstep vskip pickE hideP
open Go.RowKit
set_option maxRecDepth 100000
attribute [local go_sem] toList_bs ext_bs beq_dec bs_size bs_list bs_inj app_bs byteAt_bs errP
theorem first_of {x : UInt8} : ∀ {l : List UInt8}, x ∈ l → ∃ a b, l = a ++ x :: b ∧ x ∉ a
  | [], h => by simp at h
  | y :: l, h => by
    by_cases e : x = y
    · subst e; exact ⟨[], l, rfl, by simp⟩
    · rcases List.mem_cons.1 h with h | h
      · exact absurd h e
      · obtain ⟨a, b, rfl, h2⟩ := first_of h
        exact ⟨y :: a, b, rfl, by simp [e, h2]⟩
set_option maxRecDepth 100000 in
set_option maxHeartbeats 4000000 in
theorem c28r (s : List UInt8) (hl : s.length ≤ 100000) (hne : ¬ s = [45]) (h : ∀ k o g, ¬ Acc s k o g) : PCalls Tryd.prog 28 [.v (.string (bs s))] (.tup [.v (.int .u64 0), .v (.int .i64 11)]) := by
  refine pcalls_of (E := E) (fn := Tryd.f28) 77 [.tmp 2, .tmp 3] rfl rfl rfl rfl (by decide) rfl ?_
  by_cases h1 : (58 : UInt8) ∈ s
  · obtain ⟨a, r, rfl, ha⟩ := first_of h1
    simp only [List.length_append, List.length_cons] at hl
    have c1 := c33h a r 58 ha (by omega)
    obtain ⟨v1, b1, n1, m1⟩ := c34any 8 (.inl rfl) a (by omega)
    by_cases h2 : (35 : UInt8) ∈ r
    · obtain ⟨m, t, rfl, hm⟩ := first_of h2
      simp only [List.length_append, List.length_cons] at hl
      have c2 := c33h m t 35 hm (by omega)
      obtain ⟨v2, b2, n2, m2⟩ := c34any 64 (.inr (.inr rfl)) m (by omega)
      obtain ⟨v3, b3, n3, m3⟩ := c34any 16 (.inr (.inl rfl)) t (by omega)
      cases b1 with
      | false =>
        repeat' (first
          | (with_reducible first | refine r_seq ?_ | refine r_block ?_ | refine fork_not ?_ | refine fork_and ?_ | refine fork_or ?_ | refine chk_ok (by kernel_rfl) ?_)
          | ((with_reducible first | refine fork_dec ?_ ?_ | refine fork_eq ?_ ?_ | refine fork_ne ?_ ?_ | refine fork_intro ?_ ?_) <;> intro h <;> try (exfalso; first | omega | exact h rfl | (revert h; decide) | (cases h; done)))
          | ((with_reducible show False); omega)
          | ((first | (with_reducible first | refine r_exit ?_ | refine r_skip ?_ | refine r_cond ?_ | refine r_region ?_ | show VX _ _ _ _ _ _ _ | show vstep _ _ _ _ _ | show vskip _ _ _ | show withV _ _) | ((with_reducible show endA _ _ _ _ _ _ _); simp -implicitDefEqProofs only [endA])); simp -dsimp -implicitDefEqProofs (maxSteps := 1000000) (disch := first | omega | (simp only [LN, hne]; omega)) only [go_sem, Int.reduceToNat, Int.reducePow, Nat.reducePow, Int.reduceAdd, Int.reduceMul, Int.reduceSub, Int.reduceNeg, Nat.reduceAdd, Nat.reduceMul, Nat.reduceSub, Nat.reduceEqDiff, Nat.reduceLT, Nat.reduceLeDiff, hne])
          | ((first | (with_reducible refine r_ret ?_) | (with_reducible refine pick_viewG default (by first | omega | (simp only [LN, hne]; omega)) (by first | omega | (simp only [LN, hne]; omega)) ?_) | (with_reducible refine pick_own default (by first | omega | (simp only [LN, hne]; omega)) ?_) | (with_reducible refine And.intro (by first | decide | omega | assumption | (simp only [LN, hne]; omega)) ?_) | ((with_reducible apply callK_pure); (first | exact c1 | exact c2 | exact n1 | exact n2 | exact n3 | fail)) | ((with_reducible apply callF_lend); (first | exact c1 | exact c2 | exact n1 | exact n2 | exact n3 | fail); rfl) | ((with_reducible apply callF_go); (first | exact c1 | exact c2 | exact n1 | exact n2 | exact n3 | fail)) | ((with_reducible show pickE _ _ _); first | refine pickE_intro _ ⟨by omega, by rfl⟩ ?_ | refine pickE_intro _ (by rfl) ?_) | fail); try simp -dsimp -implicitDefEqProofs (maxSteps := 1000000) (disch := first | omega | (simp only [LN, hne]; omega)) only [go_sem, Int.reduceToNat, Int.reducePow, Nat.reducePow, Int.reduceAdd, Int.reduceMul, Int.reduceSub, Int.reduceNeg, Nat.reduceAdd, Nat.reduceMul, Nat.reduceSub, Nat.reduceEqDiff, Nat.reduceLT, Nat.reduceLeDiff, hne])
          | fail)
        all_goals first | rfl | omega | (simp at *; done) | trace_state
      | true =>
        cases b2 with
        | false =>
          repeat' (first
            | (with_reducible first | refine r_seq ?_ | refine r_block ?_ | refine fork_not ?_ | refine fork_and ?_ | refine fork_or ?_ | refine chk_ok (by kernel_rfl) ?_)
            | ((with_reducible first | refine fork_dec ?_ ?_ | refine fork_eq ?_ ?_ | refine fork_ne ?_ ?_ | refine fork_intro ?_ ?_) <;> intro h <;> try (exfalso; first | omega | exact h rfl | (revert h; decide) | (cases h; done)))
            | ((with_reducible show False); omega)
            | ((first | (with_reducible first | refine r_exit ?_ | refine r_skip ?_ | refine r_cond ?_ | refine r_region ?_ | show VX _ _ _ _ _ _ _ | show vstep _ _ _ _ _ | show vskip _ _ _ | show withV _ _) | ((with_reducible show endA _ _ _ _ _ _ _); simp -implicitDefEqProofs only [endA])); simp -dsimp -implicitDefEqProofs (maxSteps := 1000000) (disch := first | omega | (simp only [LN, hne]; omega)) only [go_sem, Int.reduceToNat, Int.reducePow, Nat.reducePow, Int.reduceAdd, Int.reduceMul, Int.reduceSub, Int.reduceNeg, Nat.reduceAdd, Nat.reduceMul, Nat.reduceSub, Nat.reduceEqDiff, Nat.reduceLT, Nat.reduceLeDiff, hne])
            | ((first | (with_reducible refine r_ret ?_) | (with_reducible refine pick_viewG default (by first | omega | (simp only [LN, hne]; omega)) (by first | omega | (simp only [LN, hne]; omega)) ?_) | (with_reducible refine pick_own default (by first | omega | (simp only [LN, hne]; omega)) ?_) | (with_reducible refine And.intro (by first | decide | omega | assumption | (simp only [LN, hne]; omega)) ?_) | ((with_reducible apply callK_pure); (first | exact c1 | exact c2 | exact n1 | exact n2 | exact n3 | fail)) | ((with_reducible apply callF_lend); (first | exact c1 | exact c2 | exact n1 | exact n2 | exact n3 | fail); rfl) | ((with_reducible apply callF_go); (first | exact c1 | exact c2 | exact n1 | exact n2 | exact n3 | fail)) | ((with_reducible show pickE _ _ _); first | refine pickE_intro _ ⟨by omega, by rfl⟩ ?_ | refine pickE_intro _ (by rfl) ?_) | fail); try simp -dsimp -implicitDefEqProofs (maxSteps := 1000000) (disch := first | omega | (simp only [LN, hne]; omega)) only [go_sem, Int.reduceToNat, Int.reducePow, Nat.reducePow, Int.reduceAdd, Int.reduceMul, Int.reduceSub, Int.reduceNeg, Nat.reduceAdd, Nat.reduceMul, Nat.reduceSub, Nat.reduceEqDiff, Nat.reduceLT, Nat.reduceLeDiff, hne])
            | fail)
          all_goals first | rfl | omega | (simp at *; done) | trace_state
        | true =>
          cases b3 with
          | false =>
            repeat' (first
              | (with_reducible first | refine r_seq ?_ | refine r_block ?_ | refine fork_not ?_ | refine fork_and ?_ | refine fork_or ?_ | refine chk_ok (by kernel_rfl) ?_)
              | ((with_reducible first | refine fork_dec ?_ ?_ | refine fork_eq ?_ ?_ | refine fork_ne ?_ ?_ | refine fork_intro ?_ ?_) <;> intro h <;> try (exfalso; first | omega | exact h rfl | (revert h; decide) | (cases h; done)))
              | ((with_reducible show False); omega)
              | ((first | (with_reducible first | refine r_exit ?_ | refine r_skip ?_ | refine r_cond ?_ | refine r_region ?_ | show VX _ _ _ _ _ _ _ | show vstep _ _ _ _ _ | show vskip _ _ _ | show withV _ _) | ((with_reducible show endA _ _ _ _ _ _ _); simp -implicitDefEqProofs only [endA])); simp -dsimp -implicitDefEqProofs (maxSteps := 1000000) (disch := first | omega | (simp only [LN, hne]; omega)) only [go_sem, Int.reduceToNat, Int.reducePow, Nat.reducePow, Int.reduceAdd, Int.reduceMul, Int.reduceSub, Int.reduceNeg, Nat.reduceAdd, Nat.reduceMul, Nat.reduceSub, Nat.reduceEqDiff, Nat.reduceLT, Nat.reduceLeDiff, hne])
              | ((first | (with_reducible refine r_ret ?_) | (with_reducible refine pick_viewG default (by first | omega | (simp only [LN, hne]; omega)) (by first | omega | (simp only [LN, hne]; omega)) ?_) | (with_reducible refine pick_own default (by first | omega | (simp only [LN, hne]; omega)) ?_) | (with_reducible refine And.intro (by first | decide | omega | assumption | (simp only [LN, hne]; omega)) ?_) | ((with_reducible apply callK_pure); (first | exact c1 | exact c2 | exact n1 | exact n2 | exact n3 | fail)) | ((with_reducible apply callF_lend); (first | exact c1 | exact c2 | exact n1 | exact n2 | exact n3 | fail); rfl) | ((with_reducible apply callF_go); (first | exact c1 | exact c2 | exact n1 | exact n2 | exact n3 | fail)) | ((with_reducible show pickE _ _ _); first | refine pickE_intro _ ⟨by omega, by rfl⟩ ?_ | refine pickE_intro _ (by rfl) ?_) | fail); try simp -dsimp -implicitDefEqProofs (maxSteps := 1000000) (disch := first | omega | (simp only [LN, hne]; omega)) only [go_sem, Int.reduceToNat, Int.reducePow, Nat.reducePow, Int.reduceAdd, Int.reduceMul, Int.reduceSub, Int.reduceNeg, Nat.reduceAdd, Nat.reduceMul, Nat.reduceSub, Nat.reduceEqDiff, Nat.reduceLT, Nat.reduceLeDiff, hne])
              | fail)
            all_goals first | rfl | omega | (simp at *; done) | trace_state
          | true =>
            obtain ⟨e1, r1⟩ := numR_inv (m1 rfl)
            obtain ⟨e2, r2⟩ := numR_inv (m2 rfl)
            obtain ⟨e3, r3⟩ := numR_inv (m3 rfl)
            simp only [Nat.reducePow, Nat.reduceSub] at r1 r2 r3
            have hmk : ¬ (makeM v2 v3 v1).2 = 0 := fun hmk => h v1 v2 v3 ⟨by unfold three; rw [← e1, ← e2, ← e3], r1, r2, r3, hmk⟩
            have w1 : IntKind.u16.wrap (v3 : Int) = v3 := by rw [wr16]; omega
            have w2 : IntKind.u8.wrap (v1 : Int) = v1 := by rw [wr8]; omega
            have cm := c19 v2 v3 v1 (by omega) (by omega) (by omega)
            repeat' (first
              | (with_reducible first | refine r_seq ?_ | refine r_block ?_ | refine fork_not ?_ | refine fork_and ?_ | refine fork_or ?_ | refine chk_ok (by kernel_rfl) ?_)
              | ((with_reducible first | refine fork_dec ?_ ?_ | refine fork_eq ?_ ?_ | refine fork_ne ?_ ?_ | refine fork_intro ?_ ?_) <;> intro h <;> try (exfalso; first | omega | exact h rfl | (revert h; decide) | (cases h; done)))
              | ((with_reducible show False); omega)
              | ((first | (with_reducible first | refine r_exit ?_ | refine r_skip ?_ | refine r_cond ?_ | refine r_region ?_ | show VX _ _ _ _ _ _ _ | show vstep _ _ _ _ _ | show vskip _ _ _ | show withV _ _) | ((with_reducible show endA _ _ _ _ _ _ _); simp -implicitDefEqProofs only [endA])); simp -dsimp -implicitDefEqProofs (maxSteps := 1000000) (disch := first | omega | (simp only [LN, hne, w1, w2]; omega)) only [go_sem, Int.reduceToNat, Int.reducePow, Nat.reducePow, Int.reduceAdd, Int.reduceMul, Int.reduceSub, Int.reduceNeg, Nat.reduceAdd, Nat.reduceMul, Nat.reduceSub, Nat.reduceEqDiff, Nat.reduceLT, Nat.reduceLeDiff, hne, w1, w2])
              | ((first | (with_reducible refine r_ret ?_) | (with_reducible refine pick_viewG default (by first | omega | (simp only [LN, hne, w1, w2]; omega)) (by first | omega | (simp only [LN, hne, w1, w2]; omega)) ?_) | (with_reducible refine pick_own default (by first | omega | (simp only [LN, hne, w1, w2]; omega)) ?_) | (with_reducible refine And.intro (by first | decide | omega | assumption | (simp only [LN, hne, w1, w2]; omega)) ?_) | ((with_reducible apply callK_pure); (first | exact c1 | exact c2 | exact n1 | exact n2 | exact n3 | exact cm | fail)) | ((with_reducible apply callF_lend); (first | exact c1 | exact c2 | exact n1 | exact n2 | exact n3 | exact cm | fail); rfl) | ((with_reducible apply callF_go); (first | exact c1 | exact c2 | exact n1 | exact n2 | exact n3 | exact cm | fail)) | ((with_reducible show pickE _ _ _); first | refine pickE_intro _ ⟨by omega, by rfl⟩ ?_ | refine pickE_intro _ (by rfl) ?_) | fail); try simp -dsimp -implicitDefEqProofs (maxSteps := 1000000) (disch := first | omega | (simp only [LN, hne, w1, w2]; omega)) only [go_sem, Int.reduceToNat, Int.reducePow, Nat.reducePow, Int.reduceAdd, Int.reduceMul, Int.reduceSub, Int.reduceNeg, Nat.reduceAdd, Nat.reduceMul, Nat.reduceSub, Nat.reduceEqDiff, Nat.reduceLT, Nat.reduceLeDiff, hne, w1, w2])
              | fail)
            all_goals first | rfl | omega | (simp at *; done) | trace_state
    · have c2 := c33m r 35 h2 (by omega)
      obtain ⟨v2, b2, n2, m2⟩ := c34any 64 (.inr (.inr rfl)) r (by omega)
      obtain ⟨v3, b3, n3, m3⟩ := c34any 16 (.inr (.inl rfl)) [] (by simp)
      repeat' (first
        | (with_reducible first | refine r_seq ?_ | refine r_block ?_ | refine fork_not ?_ | refine fork_and ?_ | refine fork_or ?_ | refine chk_ok (by kernel_rfl) ?_)
        | ((with_reducible first | refine fork_dec ?_ ?_ | refine fork_eq ?_ ?_ | refine fork_ne ?_ ?_ | refine fork_intro ?_ ?_) <;> intro h <;> try (exfalso; first | omega | exact h rfl | (revert h; decide) | (cases h; done)))
        | ((with_reducible show False); omega)
        | ((first | (with_reducible first | refine r_exit ?_ | refine r_skip ?_ | refine r_cond ?_ | refine r_region ?_ | show VX _ _ _ _ _ _ _ | show vstep _ _ _ _ _ | show vskip _ _ _ | show withV _ _) | ((with_reducible show endA _ _ _ _ _ _ _); simp -implicitDefEqProofs only [endA])); simp -dsimp -implicitDefEqProofs (maxSteps := 1000000) (disch := first | omega | (simp only [LN, hne]; omega)) only [go_sem, Int.reduceToNat, Int.reducePow, Nat.reducePow, Int.reduceAdd, Int.reduceMul, Int.reduceSub, Int.reduceNeg, Nat.reduceAdd, Nat.reduceMul, Nat.reduceSub, Nat.reduceEqDiff, Nat.reduceLT, Nat.reduceLeDiff, hne])
        | ((first | (with_reducible refine r_ret ?_) | (with_reducible refine pick_viewG default (by first | omega | (simp only [LN, hne]; omega)) (by first | omega | (simp only [LN, hne]; omega)) ?_) | (with_reducible refine pick_own default (by first | omega | (simp only [LN, hne]; omega)) ?_) | (with_reducible refine And.intro (by first | decide | omega | assumption | (simp only [LN, hne]; omega)) ?_) | ((with_reducible apply callK_pure); (first | exact c1 | exact c2 | exact n1 | exact n2 | exact n3 | fail)) | ((with_reducible apply callF_lend); (first | exact c1 | exact c2 | exact n1 | exact n2 | exact n3 | fail); rfl) | ((with_reducible apply callF_go); (first | exact c1 | exact c2 | exact n1 | exact n2 | exact n3 | fail)) | ((with_reducible show pickE _ _ _); first | refine pickE_intro _ ⟨by omega, by rfl⟩ ?_ | refine pickE_intro _ (by rfl) ?_) | fail); try simp -dsimp -implicitDefEqProofs (maxSteps := 1000000) (disch := first | omega | (simp only [LN, hne]; omega)) only [go_sem, Int.reduceToNat, Int.reducePow, Nat.reducePow, Int.reduceAdd, Int.reduceMul, Int.reduceSub, Int.reduceNeg, Nat.reduceAdd, Nat.reduceMul, Nat.reduceSub, Nat.reduceEqDiff, Nat.reduceLT, Nat.reduceLeDiff, hne])
        | fail)
      all_goals first | rfl | omega | (simp at *; done) | trace_state
  · have c1 := c33m s 58 h1 (by omega)
    have c2 := c33m [] 35 (by simp) (by simp)
    obtain ⟨v1, b1, n1, m1⟩ := c34any 8 (.inl rfl) s (by omega)
    obtain ⟨v2, b2, n2, m2⟩ := c34any 64 (.inr (.inr rfl)) [] (by simp)
    obtain ⟨v3, b3, n3, m3⟩ := c34any 16 (.inr (.inl rfl)) [] (by simp)
    repeat' (first
      | (with_reducible first | refine r_seq ?_ | refine r_block ?_ | refine fork_not ?_ | refine fork_and ?_ | refine fork_or ?_ | refine chk_ok (by kernel_rfl) ?_)
      | ((with_reducible first | refine fork_dec ?_ ?_ | refine fork_eq ?_ ?_ | refine fork_ne ?_ ?_ | refine fork_intro ?_ ?_) <;> intro h <;> try (exfalso; first | omega | exact h rfl | (revert h; decide) | (cases h; done)))
      | ((with_reducible show False); omega)
      | ((first | (with_reducible first | refine r_exit ?_ | refine r_skip ?_ | refine r_cond ?_ | refine r_region ?_ | show VX _ _ _ _ _ _ _ | show vstep _ _ _ _ _ | show vskip _ _ _ | show withV _ _) | ((with_reducible show endA _ _ _ _ _ _ _); simp -implicitDefEqProofs only [endA])); simp -dsimp -implicitDefEqProofs (maxSteps := 1000000) (disch := first | omega | (simp only [LN, hne]; omega)) only [go_sem, Int.reduceToNat, Int.reducePow, Nat.reducePow, Int.reduceAdd, Int.reduceMul, Int.reduceSub, Int.reduceNeg, Nat.reduceAdd, Nat.reduceMul, Nat.reduceSub, Nat.reduceEqDiff, Nat.reduceLT, Nat.reduceLeDiff, hne])
      | ((first | (with_reducible refine r_ret ?_) | (with_reducible refine pick_viewG default (by first | omega | (simp only [LN, hne]; omega)) (by first | omega | (simp only [LN, hne]; omega)) ?_) | (with_reducible refine pick_own default (by first | omega | (simp only [LN, hne]; omega)) ?_) | (with_reducible refine And.intro (by first | decide | omega | assumption | (simp only [LN, hne]; omega)) ?_) | ((with_reducible apply callK_pure); (first | exact c1 | exact c2 | exact n1 | exact n2 | exact n3 | fail)) | ((with_reducible apply callF_lend); (first | exact c1 | exact c2 | exact n1 | exact n2 | exact n3 | fail); rfl) | ((with_reducible apply callF_go); (first | exact c1 | exact c2 | exact n1 | exact n2 | exact n3 | fail)) | ((with_reducible show pickE _ _ _); first | refine pickE_intro _ ⟨by omega, by rfl⟩ ?_ | refine pickE_intro _ (by rfl) ?_) | fail); try simp -dsimp -implicitDefEqProofs (maxSteps := 1000000) (disch := first | omega | (simp only [LN, hne]; omega)) only [go_sem, Int.reduceToNat, Int.reducePow, Nat.reducePow, Int.reduceAdd, Int.reduceMul, Int.reduceSub, Int.reduceNeg, Nat.reduceAdd, Nat.reduceMul, Nat.reduceSub, Nat.reduceEqDiff, Nat.reduceLT, Nat.reduceLeDiff, hne])
      | fail)
    all_goals first | rfl | omega | (simp at *; done) | trace_state
/-! The reference. -/
theorem c36any (s : List UInt8) (hl : s.length ≤ 1000000) : ∃ (v : Nat) (d : List UInt8) (b : Bool), PCalls Tryd.prog 36 [.v (.string (bs s))] (.tup [.v (.int .u64 v), .v (.string (bs d)), .v (.bool b)]) ∧ (b = true → s = Lib.decDigits v ++ d) ∧ v < 100000000000 ∧ d.length ≤ s.length := by
  refine ⟨_, _, _, c36 s hl, fun hb => ?_, ?_, by rw [List.length_drop]; omega⟩
  · unfold okN at hb
    rw [Bool.and_eq_true, Bool.or_eq_true, decide_eq_true_iff, decide_eq_true_iff] at hb
    obtain ⟨h1, h2⟩ := hb
    have hp := pre_le 11 s
    have hk : kN s ≤ s.length := hp.2
    have hc := canon ((s.take (kN s)).length - 1) (s.take (kN s)) (by rw [List.length_take]; omega) (pre_take 11 s) (by
      rcases h2 with h2 | h2
      · exact .inl (by rw [List.length_take]; omega)
      · refine .inr fun h3 => ?_
        rw [List.getD_eq_getElem?_getD, List.getElem?_take, if_pos h1, ← List.getD_eq_getElem?_getD] at h3
        rw [h3] at h2
        simp at h2)
    rw [← hc, List.take_append_drop]
  · have h1 := val_lt (s.take (kN s)) 0 (pre_take 11 s)
    have h2 : (s.take (kN s)).length ≤ 11 := by rw [List.length_take]; have := (pre_le 11 s).1; unfold kN; omega
    have h3 := Nat.pow_le_pow_right (show 0 < 10 by decide) h2
    have h4 : (10 : Nat) ^ 11 = 100000000000 := by decide
    omega
theorem c36dec (u : Nat) (hu : u < 100000000000) (r : List UInt8) (hr : r = [] ∨ ¬ Dig (r.getD 0 0)) (hl : r.length ≤ 100000) : PCalls Tryd.prog 36 [.v (.string (bs (Lib.decDigits u ++ r)))] (.tup [.v (.int .u64 u), .v (.string (bs r)), .v (.bool true)]) := by
  have hlen := dec_11 hu
  have h1 : kN (Lib.decDigits u ++ r) = (Lib.decDigits u).length := pre_app (dec_val u).2 hlen hr
  have := c36 (Lib.decDigits u ++ r) (by simp; omega)
  rw [h1, List.take_left, List.drop_left, (dec_val u).1] at this
  have h2 : okN (Lib.decDigits u ++ r) = true := by
    have h3 := dec_len u
    unfold okN
    rw [h1, decide_eq_true (by omega), Bool.true_and]
    by_cases h4 : (Lib.decDigits u).length = 1
    · rw [decide_eq_true h4]; rfl
    · rw [decide_eq_false h4, Bool.false_or, getD_left (by omega), decide_eq_false (fun (h5 : ((Lib.decDigits u).getD 0 0).toNat = 48) => dec_lead u (by omega) (u8_ext h5))]; rfl
  rw [h2] at this
  exact this
set_option maxRecDepth 100000 in
set_option maxHeartbeats 4000000 in
theorem c30n  : PCalls Tryd.prog 30 [.v (.string (bs [45]))] (.tup [.v (.int .u64 0), .v (.int .i64 0)]) := by
  refine pcalls_of (E := E) (fn := Tryd.f30) 83 [.tmp 2, .tmp 3] rfl rfl rfl rfl (by decide) rfl ?_
  repeat' (first
    | (with_reducible first | refine r_seq ?_ | refine r_block ?_ | refine fork_not ?_ | refine fork_and ?_ | refine fork_or ?_ | refine chk_ok (by kernel_rfl) ?_)
    | ((with_reducible first | refine fork_dec ?_ ?_ | refine fork_eq ?_ ?_ | refine fork_ne ?_ ?_ | refine fork_intro ?_ ?_) <;> intro h <;> try (exfalso; first | omega | exact h rfl | (revert h; decide) | (cases h; done)))
    | ((with_reducible show False); omega)
    | ((first | (with_reducible first | refine r_exit ?_ | refine r_skip ?_ | refine r_cond ?_ | refine r_region ?_ | show VX _ _ _ _ _ _ _ | show vstep _ _ _ _ _ | show vskip _ _ _ | show withV _ _) | ((with_reducible show endA _ _ _ _ _ _ _); simp -implicitDefEqProofs only [endA])); simp -dsimp -implicitDefEqProofs (maxSteps := 1000000) (disch := first | omega | (simp only [LN]; omega)) only [go_sem, Int.reduceToNat, Int.reducePow, Nat.reducePow, Int.reduceAdd, Int.reduceMul, Int.reduceSub, Int.reduceNeg, Nat.reduceAdd, Nat.reduceMul, Nat.reduceSub, Nat.reduceEqDiff, Nat.reduceLT, Nat.reduceLeDiff])
    | ((first | (with_reducible refine r_ret ?_) | (with_reducible refine pick_viewG default (by first | omega | (simp only [LN]; omega)) (by first | omega | (simp only [LN]; omega)) ?_) | (with_reducible refine pick_own default (by first | omega | (simp only [LN]; omega)) ?_) | (with_reducible refine And.intro (by first | decide | omega | assumption | (simp only [LN]; omega)) ?_) | ((with_reducible show pickE _ _ _); first | refine pickE_intro _ ⟨by omega, by rfl⟩ ?_ | refine pickE_intro _ (by rfl) ?_) | fail); try simp -dsimp -implicitDefEqProofs (maxSteps := 1000000) (disch := first | omega | (simp only [LN]; omega)) only [go_sem, Int.reduceToNat, Int.reducePow, Nat.reducePow, Int.reduceAdd, Int.reduceMul, Int.reduceSub, Int.reduceNeg, Nat.reduceAdd, Nat.reduceMul, Nat.reduceSub, Nat.reduceEqDiff, Nat.reduceLT, Nat.reduceLeDiff])
    | fail)
  all_goals first | rfl | omega | (simp at *; done) | trace_state
set_option maxRecDepth 100000 in
set_option maxHeartbeats 4000000 in
theorem c30a (s : List UInt8) (hl : s.length ≤ 10000) (k o g : Nat) (h : Acc s k o g) : PCalls Tryd.prog 30 [.v (.string (bs s))] (.tup [.v (.int .u64 (makeM o g k).1), .v (.int .i64 0)]) := by
  refine pcalls_of (E := E) (fn := Tryd.f30) 83 [.tmp 2, .tmp 3] rfl rfl rfl rfl (by decide) rfl ?_
  have hs := h.hs
  obtain ⟨ra, rb⟩ := acc_r h
  have hne : ¬ s = [45] := by rw [hs]; exact three_ne k o g
  subst hs
  have hm := h.hm
  have hk := h.hk
  have ho := h.ho
  have hg := h.hg
  have hl2 := hl
  unfold three at hl2 hne
  simp only [List.length_append, List.length_cons] at hl2
  have n1 := c36dec k (by omega) (58 :: (Lib.decDigits o ++ 35 :: Lib.decDigits g)) (.inr d58) (by simp; omega)
  have n2 := c36dec o (by omega) (35 :: Lib.decDigits g) (.inr d35) (by simp; omega)
  have n3 := c36dec g (by omega) [] (.inl rfl) (by simp)
  rw [List.append_nil] at n3
  have w1 : IntKind.u16.wrap (g : Int) = g := by rw [wr16]; omega
  have w2 : IntKind.u8.wrap (k : Int) = k := by rw [wr8]; omega
  have cm := c20 o g k (by omega) (by omega) (by omega) (by omega)
  rw [hm] at cm
  have b58 : (UInt8.toNat 58 : Int) = 58 := rfl
  have b35 : (UInt8.toNat 35 : Int) = 35 := rfl
  have tl1 : List.take (Lib.decDigits o ++ 35 :: Lib.decDigits g).length (Lib.decDigits o ++ 35 :: Lib.decDigits g) = Lib.decDigits o ++ 35 :: Lib.decDigits g := List.take_length
  have tl2 : List.take (Lib.decDigits g).length (Lib.decDigits g) = Lib.decDigits g := List.take_length
  repeat' (first
    | (with_reducible first | refine r_seq ?_ | refine r_block ?_ | refine fork_not ?_ | refine fork_and ?_ | refine fork_or ?_ | refine chk_ok (by kernel_rfl) ?_)
    | ((with_reducible first | refine fork_dec ?_ ?_ | refine fork_eq ?_ ?_ | refine fork_ne ?_ ?_ | refine fork_intro ?_ ?_) <;> intro h <;> try (exfalso; first | omega | exact h rfl | (revert h; decide) | (cases h; done)))
    | ((with_reducible show False); omega)
    | ((first | (with_reducible first | refine r_exit ?_ | refine r_skip ?_ | refine r_cond ?_ | refine r_region ?_ | show VX _ _ _ _ _ _ _ | show vstep _ _ _ _ _ | show vskip _ _ _ | show withV _ _) | ((with_reducible show endA _ _ _ _ _ _ _); simp -implicitDefEqProofs only [endA])); simp -dsimp -implicitDefEqProofs (maxSteps := 1000000) (disch := first | omega | (simp only [LN, three, hne, w1, w2, List.getD_cons_zero, List.drop_succ_cons, List.drop_zero, b58, b35]; omega)) only [go_sem, Int.reduceToNat, Int.reducePow, Nat.reducePow, Int.reduceAdd, Int.reduceMul, Int.reduceSub, Int.reduceNeg, Nat.reduceAdd, Nat.reduceMul, Nat.reduceSub, Nat.reduceEqDiff, Nat.reduceLT, Nat.reduceLeDiff, three, hne, w1, w2, List.getD_cons_zero, List.drop_succ_cons, List.drop_zero, b58, b35])
    | ((first | (with_reducible refine r_ret ?_) | (with_reducible refine pick_viewG default (by first | omega | (simp only [LN, three, hne, w1, w2, List.getD_cons_zero, List.drop_succ_cons, List.drop_zero, b58, b35]; omega)) (by first | omega | (simp only [LN, three, hne, w1, w2, List.getD_cons_zero, List.drop_succ_cons, List.drop_zero, b58, b35]; omega)) ?_) | (with_reducible refine pick_own default (by first | omega | (simp only [LN, three, hne, w1, w2, List.getD_cons_zero, List.drop_succ_cons, List.drop_zero, b58, b35]; omega)) ?_) | (with_reducible refine And.intro (by first | decide | omega | assumption | (simp only [LN, three, hne, w1, w2, List.getD_cons_zero, List.drop_succ_cons, List.drop_zero, b58, b35]; omega)) ?_) | ((with_reducible apply callK_pure); (first | exact n1 | exact n2 | exact n3 | exact cm | fail)) | ((with_reducible apply callF_lend); (first | exact n1 | exact n2 | exact n3 | exact cm | fail); rfl) | ((with_reducible apply callF_go); (first | exact n1 | exact n2 | exact n3 | exact cm | fail)) | ((with_reducible show pickE _ _ _); first | refine pickE_intro _ ⟨by omega, by rfl⟩ ?_ | refine pickE_intro _ (by rfl) ?_) | fail); try simp -dsimp -implicitDefEqProofs (maxSteps := 1000000) (disch := first | omega | (simp only [LN, three, hne, w1, w2, List.getD_cons_zero, List.drop_succ_cons, List.drop_zero, b58, b35]; omega)) only [go_sem, Int.reduceToNat, Int.reducePow, Nat.reducePow, Int.reduceAdd, Int.reduceMul, Int.reduceSub, Int.reduceNeg, Nat.reduceAdd, Nat.reduceMul, Nat.reduceSub, Nat.reduceEqDiff, Nat.reduceLT, Nat.reduceLeDiff, three, hne, w1, w2, List.getD_cons_zero, List.drop_succ_cons, List.drop_zero, b58, b35])
    | fail)
  all_goals first | rfl | omega | (simp at *; done) | trace_state
set_option maxRecDepth 100000 in
set_option maxHeartbeats 4000000 in
theorem c30r (s : List UInt8) (hl : s.length ≤ 10000) (hne : ¬ s = [45]) (h : ∀ k o g, ¬ Acc s k o g) : PCalls Tryd.prog 30 [.v (.string (bs s))] (.tup [.v (.int .u64 0), .v (.int .i64 11)]) := by
  refine pcalls_of (E := E) (fn := Tryd.f30) 83 [.tmp 2, .tmp 3] rfl rfl rfl rfl (by decide) rfl ?_
  obtain ⟨v1, d1, b1, n1, m1, r1, l1⟩ := c36any s (by omega)
  have b58 : (UInt8.toNat 58 : Int) = 58 := rfl
  have b35 : (UInt8.toNat 35 : Int) = 35 := rfl
  cases b1 with
  | false =>
    repeat' (first
      | (with_reducible first | refine r_seq ?_ | refine r_block ?_ | refine fork_not ?_ | refine fork_and ?_ | refine fork_or ?_ | refine chk_ok (by kernel_rfl) ?_)
      | ((with_reducible first | refine fork_dec ?_ ?_ | refine fork_eq ?_ ?_ | refine fork_ne ?_ ?_ | refine fork_intro ?_ ?_) <;> intro h <;> try (exfalso; first | omega | exact h rfl | (revert h; decide) | (cases h; done)))
      | ((with_reducible show False); omega)
      | ((first | (with_reducible first | refine r_exit ?_ | refine r_skip ?_ | refine r_cond ?_ | refine r_region ?_ | show VX _ _ _ _ _ _ _ | show vstep _ _ _ _ _ | show vskip _ _ _ | show withV _ _) | ((with_reducible show endA _ _ _ _ _ _ _); simp -implicitDefEqProofs only [endA])); simp -dsimp -implicitDefEqProofs (maxSteps := 1000000) (disch := first | omega | (simp only [LN, hne]; omega)) only [go_sem, Int.reduceToNat, Int.reducePow, Nat.reducePow, Int.reduceAdd, Int.reduceMul, Int.reduceSub, Int.reduceNeg, Nat.reduceAdd, Nat.reduceMul, Nat.reduceSub, Nat.reduceEqDiff, Nat.reduceLT, Nat.reduceLeDiff, hne])
      | ((first | (with_reducible refine r_ret ?_) | (with_reducible refine pick_viewG default (by first | omega | (simp only [LN, hne]; omega)) (by first | omega | (simp only [LN, hne]; omega)) ?_) | (with_reducible refine pick_own default (by first | omega | (simp only [LN, hne]; omega)) ?_) | (with_reducible refine And.intro (by first | decide | omega | assumption | (simp only [LN, hne]; omega)) ?_) | ((with_reducible apply callK_pure); (exact n1)) | ((with_reducible apply callF_lend); (exact n1); rfl) | ((with_reducible apply callF_go); (exact n1)) | ((with_reducible show pickE _ _ _); first | refine pickE_intro _ ⟨by omega, by rfl⟩ ?_ | refine pickE_intro _ (by rfl) ?_) | fail); try simp -dsimp -implicitDefEqProofs (maxSteps := 1000000) (disch := first | omega | (simp only [LN, hne]; omega)) only [go_sem, Int.reduceToNat, Int.reducePow, Nat.reducePow, Int.reduceAdd, Int.reduceMul, Int.reduceSub, Int.reduceNeg, Nat.reduceAdd, Nat.reduceMul, Nat.reduceSub, Nat.reduceEqDiff, Nat.reduceLT, Nat.reduceLeDiff, hne])
      | fail)
    all_goals first | rfl | omega | (simp at *; done) | trace_state
  | true =>
    have m1 := m1 rfl
    cases d1 with
    | nil =>
      repeat' (first
        | (with_reducible first | refine r_seq ?_ | refine r_block ?_ | refine fork_not ?_ | refine fork_and ?_ | refine fork_or ?_ | refine chk_ok (by kernel_rfl) ?_)
        | ((with_reducible first | refine fork_dec ?_ ?_ | refine fork_eq ?_ ?_ | refine fork_ne ?_ ?_ | refine fork_intro ?_ ?_) <;> intro h <;> try (exfalso; first | omega | exact h rfl | (revert h; decide) | (cases h; done)))
        | ((with_reducible show False); omega)
        | ((first | (with_reducible first | refine r_exit ?_ | refine r_skip ?_ | refine r_cond ?_ | refine r_region ?_ | show VX _ _ _ _ _ _ _ | show vstep _ _ _ _ _ | show vskip _ _ _ | show withV _ _) | ((with_reducible show endA _ _ _ _ _ _ _); simp -implicitDefEqProofs only [endA])); simp -dsimp -implicitDefEqProofs (maxSteps := 1000000) (disch := first | omega | (simp only [LN, hne]; omega)) only [go_sem, Int.reduceToNat, Int.reducePow, Nat.reducePow, Int.reduceAdd, Int.reduceMul, Int.reduceSub, Int.reduceNeg, Nat.reduceAdd, Nat.reduceMul, Nat.reduceSub, Nat.reduceEqDiff, Nat.reduceLT, Nat.reduceLeDiff, hne])
        | ((first | (with_reducible refine r_ret ?_) | (with_reducible refine pick_viewG default (by first | omega | (simp only [LN, hne]; omega)) (by first | omega | (simp only [LN, hne]; omega)) ?_) | (with_reducible refine pick_own default (by first | omega | (simp only [LN, hne]; omega)) ?_) | (with_reducible refine And.intro (by first | decide | omega | assumption | (simp only [LN, hne]; omega)) ?_) | ((with_reducible apply callK_pure); (exact n1)) | ((with_reducible apply callF_lend); (exact n1); rfl) | ((with_reducible apply callF_go); (exact n1)) | ((with_reducible show pickE _ _ _); first | refine pickE_intro _ ⟨by omega, by rfl⟩ ?_ | refine pickE_intro _ (by rfl) ?_) | fail); try simp -dsimp -implicitDefEqProofs (maxSteps := 1000000) (disch := first | omega | (simp only [LN, hne]; omega)) only [go_sem, Int.reduceToNat, Int.reducePow, Nat.reducePow, Int.reduceAdd, Int.reduceMul, Int.reduceSub, Int.reduceNeg, Nat.reduceAdd, Nat.reduceMul, Nat.reduceSub, Nat.reduceEqDiff, Nat.reduceLT, Nat.reduceLeDiff, hne])
        | fail)
      all_goals first | rfl | omega | (simp at *; done) | trace_state
    | cons x d1 =>
      have l1' := l1
      simp only [List.length_cons] at l1'
      by_cases hx : x = 58
      · subst hx
        obtain ⟨v2, d2, b2, n2, m2, r2, l2⟩ := c36any d1 (by omega)
        have tl1 : List.take d1.length d1 = d1 := List.take_length
        cases b2 with
        | false =>
          repeat' (first
            | (with_reducible first | refine r_seq ?_ | refine r_block ?_ | refine fork_not ?_ | refine fork_and ?_ | refine fork_or ?_ | refine chk_ok (by kernel_rfl) ?_)
            | ((with_reducible first | refine fork_dec ?_ ?_ | refine fork_eq ?_ ?_ | refine fork_ne ?_ ?_ | refine fork_intro ?_ ?_) <;> intro h <;> try (exfalso; first | omega | exact h rfl | (revert h; decide) | (cases h; done)))
            | ((with_reducible show False); omega)
            | ((first | (with_reducible first | refine r_exit ?_ | refine r_skip ?_ | refine r_cond ?_ | refine r_region ?_ | show VX _ _ _ _ _ _ _ | show vstep _ _ _ _ _ | show vskip _ _ _ | show withV _ _) | ((with_reducible show endA _ _ _ _ _ _ _); simp -implicitDefEqProofs only [endA])); simp -dsimp -implicitDefEqProofs (maxSteps := 1000000) (disch := first | omega | (simp only [LN, hne, List.getD_cons_zero, List.drop_succ_cons, List.drop_zero, b58]; omega)) only [go_sem, Int.reduceToNat, Int.reducePow, Nat.reducePow, Int.reduceAdd, Int.reduceMul, Int.reduceSub, Int.reduceNeg, Nat.reduceAdd, Nat.reduceMul, Nat.reduceSub, Nat.reduceEqDiff, Nat.reduceLT, Nat.reduceLeDiff, hne, List.getD_cons_zero, List.drop_succ_cons, List.drop_zero, b58])
            | ((first | (with_reducible refine r_ret ?_) | (with_reducible refine pick_viewG default (by first | omega | (simp only [LN, hne, List.getD_cons_zero, List.drop_succ_cons, List.drop_zero, b58]; omega)) (by first | omega | (simp only [LN, hne, List.getD_cons_zero, List.drop_succ_cons, List.drop_zero, b58]; omega)) ?_) | (with_reducible refine pick_own default (by first | omega | (simp only [LN, hne, List.getD_cons_zero, List.drop_succ_cons, List.drop_zero, b58]; omega)) ?_) | (with_reducible refine And.intro (by first | decide | omega | assumption | (simp only [LN, hne, List.getD_cons_zero, List.drop_succ_cons, List.drop_zero, b58]; omega)) ?_) | ((with_reducible apply callK_pure); (first | exact n1 | exact n2 | fail)) | ((with_reducible apply callF_lend); (first | exact n1 | exact n2 | fail); rfl) | ((with_reducible apply callF_go); (first | exact n1 | exact n2 | fail)) | ((with_reducible show pickE _ _ _); first | refine pickE_intro _ ⟨by omega, by rfl⟩ ?_ | refine pickE_intro _ (by rfl) ?_) | fail); try simp -dsimp -implicitDefEqProofs (maxSteps := 1000000) (disch := first | omega | (simp only [LN, hne, List.getD_cons_zero, List.drop_succ_cons, List.drop_zero, b58]; omega)) only [go_sem, Int.reduceToNat, Int.reducePow, Nat.reducePow, Int.reduceAdd, Int.reduceMul, Int.reduceSub, Int.reduceNeg, Nat.reduceAdd, Nat.reduceMul, Nat.reduceSub, Nat.reduceEqDiff, Nat.reduceLT, Nat.reduceLeDiff, hne, List.getD_cons_zero, List.drop_succ_cons, List.drop_zero, b58])
            | fail)
          all_goals first | rfl | omega | (simp at *; done) | trace_state
        | true =>
          have m2 := m2 rfl
          cases d2 with
          | nil =>
            repeat' (first
              | (with_reducible first | refine r_seq ?_ | refine r_block ?_ | refine fork_not ?_ | refine fork_and ?_ | refine fork_or ?_ | refine chk_ok (by kernel_rfl) ?_)
              | ((with_reducible first | refine fork_dec ?_ ?_ | refine fork_eq ?_ ?_ | refine fork_ne ?_ ?_ | refine fork_intro ?_ ?_) <;> intro h <;> try (exfalso; first | omega | exact h rfl | (revert h; decide) | (cases h; done)))
              | ((with_reducible show False); omega)
              | ((first | (with_reducible first | refine r_exit ?_ | refine r_skip ?_ | refine r_cond ?_ | refine r_region ?_ | show VX _ _ _ _ _ _ _ | show vstep _ _ _ _ _ | show vskip _ _ _ | show withV _ _) | ((with_reducible show endA _ _ _ _ _ _ _); simp -implicitDefEqProofs only [endA])); simp -dsimp -implicitDefEqProofs (maxSteps := 1000000) (disch := first | omega | (simp only [LN, hne, List.getD_cons_zero, List.drop_succ_cons, List.drop_zero, b58]; omega)) only [go_sem, Int.reduceToNat, Int.reducePow, Nat.reducePow, Int.reduceAdd, Int.reduceMul, Int.reduceSub, Int.reduceNeg, Nat.reduceAdd, Nat.reduceMul, Nat.reduceSub, Nat.reduceEqDiff, Nat.reduceLT, Nat.reduceLeDiff, hne, List.getD_cons_zero, List.drop_succ_cons, List.drop_zero, b58])
              | ((first | (with_reducible refine r_ret ?_) | (with_reducible refine pick_viewG default (by first | omega | (simp only [LN, hne, List.getD_cons_zero, List.drop_succ_cons, List.drop_zero, b58]; omega)) (by first | omega | (simp only [LN, hne, List.getD_cons_zero, List.drop_succ_cons, List.drop_zero, b58]; omega)) ?_) | (with_reducible refine pick_own default (by first | omega | (simp only [LN, hne, List.getD_cons_zero, List.drop_succ_cons, List.drop_zero, b58]; omega)) ?_) | (with_reducible refine And.intro (by first | decide | omega | assumption | (simp only [LN, hne, List.getD_cons_zero, List.drop_succ_cons, List.drop_zero, b58]; omega)) ?_) | ((with_reducible apply callK_pure); (first | exact n1 | exact n2 | fail)) | ((with_reducible apply callF_lend); (first | exact n1 | exact n2 | fail); rfl) | ((with_reducible apply callF_go); (first | exact n1 | exact n2 | fail)) | ((with_reducible show pickE _ _ _); first | refine pickE_intro _ ⟨by omega, by rfl⟩ ?_ | refine pickE_intro _ (by rfl) ?_) | fail); try simp -dsimp -implicitDefEqProofs (maxSteps := 1000000) (disch := first | omega | (simp only [LN, hne, List.getD_cons_zero, List.drop_succ_cons, List.drop_zero, b58]; omega)) only [go_sem, Int.reduceToNat, Int.reducePow, Nat.reducePow, Int.reduceAdd, Int.reduceMul, Int.reduceSub, Int.reduceNeg, Nat.reduceAdd, Nat.reduceMul, Nat.reduceSub, Nat.reduceEqDiff, Nat.reduceLT, Nat.reduceLeDiff, hne, List.getD_cons_zero, List.drop_succ_cons, List.drop_zero, b58])
              | fail)
            all_goals first | rfl | omega | (simp at *; done) | trace_state
          | cons y d2 =>
            have l2' := l2
            simp only [List.length_cons] at l2'
            by_cases hy : y = 35
            · subst hy
              obtain ⟨v3, d3, b3, n3, m3, r3, l3⟩ := c36any d2 (by omega)
              have tl2 : List.take d2.length d2 = d2 := List.take_length
              cases b3 with
              | false =>
                repeat' (first
                  | (with_reducible first | refine r_seq ?_ | refine r_block ?_ | refine fork_not ?_ | refine fork_and ?_ | refine fork_or ?_ | refine chk_ok (by kernel_rfl) ?_)
                  | ((with_reducible first | refine fork_dec ?_ ?_ | refine fork_eq ?_ ?_ | refine fork_ne ?_ ?_ | refine fork_intro ?_ ?_) <;> intro h <;> try (exfalso; first | omega | exact h rfl | (revert h; decide) | (cases h; done)))
                  | ((with_reducible show False); omega)
                  | ((first | (with_reducible first | refine r_exit ?_ | refine r_skip ?_ | refine r_cond ?_ | refine r_region ?_ | show VX _ _ _ _ _ _ _ | show vstep _ _ _ _ _ | show vskip _ _ _ | show withV _ _) | ((with_reducible show endA _ _ _ _ _ _ _); simp -implicitDefEqProofs only [endA])); simp -dsimp -implicitDefEqProofs (maxSteps := 1000000) (disch := first | omega | (simp only [LN, hne, List.getD_cons_zero, List.drop_succ_cons, List.drop_zero, b58, b35]; omega)) only [go_sem, Int.reduceToNat, Int.reducePow, Nat.reducePow, Int.reduceAdd, Int.reduceMul, Int.reduceSub, Int.reduceNeg, Nat.reduceAdd, Nat.reduceMul, Nat.reduceSub, Nat.reduceEqDiff, Nat.reduceLT, Nat.reduceLeDiff, hne, List.getD_cons_zero, List.drop_succ_cons, List.drop_zero, b58, b35])
                  | ((first | (with_reducible refine r_ret ?_) | (with_reducible refine pick_viewG default (by first | omega | (simp only [LN, hne, List.getD_cons_zero, List.drop_succ_cons, List.drop_zero, b58, b35]; omega)) (by first | omega | (simp only [LN, hne, List.getD_cons_zero, List.drop_succ_cons, List.drop_zero, b58, b35]; omega)) ?_) | (with_reducible refine pick_own default (by first | omega | (simp only [LN, hne, List.getD_cons_zero, List.drop_succ_cons, List.drop_zero, b58, b35]; omega)) ?_) | (with_reducible refine And.intro (by first | decide | omega | assumption | (simp only [LN, hne, List.getD_cons_zero, List.drop_succ_cons, List.drop_zero, b58, b35]; omega)) ?_) | ((with_reducible apply callK_pure); (first | exact n1 | exact n2 | exact n3 | fail)) | ((with_reducible apply callF_lend); (first | exact n1 | exact n2 | exact n3 | fail); rfl) | ((with_reducible apply callF_go); (first | exact n1 | exact n2 | exact n3 | fail)) | ((with_reducible show pickE _ _ _); first | refine pickE_intro _ ⟨by omega, by rfl⟩ ?_ | refine pickE_intro _ (by rfl) ?_) | fail); try simp -dsimp -implicitDefEqProofs (maxSteps := 1000000) (disch := first | omega | (simp only [LN, hne, List.getD_cons_zero, List.drop_succ_cons, List.drop_zero, b58, b35]; omega)) only [go_sem, Int.reduceToNat, Int.reducePow, Nat.reducePow, Int.reduceAdd, Int.reduceMul, Int.reduceSub, Int.reduceNeg, Nat.reduceAdd, Nat.reduceMul, Nat.reduceSub, Nat.reduceEqDiff, Nat.reduceLT, Nat.reduceLeDiff, hne, List.getD_cons_zero, List.drop_succ_cons, List.drop_zero, b58, b35])
                  | fail)
                all_goals first | rfl | omega | (simp at *; done) | trace_state
              | true =>
                have m3 := m3 rfl
                by_cases hr : v1 ≤ 127 ∧ v3 ≤ 65535 ∧ d3 = []
                · obtain ⟨hr1, hr3, rfl⟩ := hr
                  rw [List.append_nil] at m3
                  have hmk : ¬ (makeM v2 v3 v1).2 = 0 := fun hmk => h v1 v2 v3 ⟨by unfold three; rw [m1, m2, m3], by omega, by omega, by omega, hmk⟩
                  have w1 : IntKind.u16.wrap (v3 : Int) = v3 := by rw [wr16]; omega
                  have w2 : IntKind.u8.wrap (v1 : Int) = v1 := by rw [wr8]; omega
                  have cm := c20 v2 v3 v1 (by omega) (by omega) (by omega) (by omega)
                  repeat' (first
                    | (with_reducible first | refine r_seq ?_ | refine r_block ?_ | refine fork_not ?_ | refine fork_and ?_ | refine fork_or ?_ | refine chk_ok (by kernel_rfl) ?_)
                    | ((with_reducible first | refine fork_dec ?_ ?_ | refine fork_eq ?_ ?_ | refine fork_ne ?_ ?_ | refine fork_intro ?_ ?_) <;> intro h <;> try (exfalso; first | omega | exact h rfl | (revert h; decide) | (cases h; done)))
                    | ((with_reducible show False); omega)
                    | ((first | (with_reducible first | refine r_exit ?_ | refine r_skip ?_ | refine r_cond ?_ | refine r_region ?_ | show VX _ _ _ _ _ _ _ | show vstep _ _ _ _ _ | show vskip _ _ _ | show withV _ _) | ((with_reducible show endA _ _ _ _ _ _ _); simp -implicitDefEqProofs only [endA])); simp -dsimp -implicitDefEqProofs (maxSteps := 1000000) (disch := first | omega | (simp only [LN, hne, w1, w2, List.getD_cons_zero, List.drop_succ_cons, List.drop_zero, b58, b35]; omega)) only [go_sem, Int.reduceToNat, Int.reducePow, Nat.reducePow, Int.reduceAdd, Int.reduceMul, Int.reduceSub, Int.reduceNeg, Nat.reduceAdd, Nat.reduceMul, Nat.reduceSub, Nat.reduceEqDiff, Nat.reduceLT, Nat.reduceLeDiff, hne, w1, w2, List.getD_cons_zero, List.drop_succ_cons, List.drop_zero, b58, b35])
                    | ((first | (with_reducible refine r_ret ?_) | (with_reducible refine pick_viewG default (by first | omega | (simp only [LN, hne, w1, w2, List.getD_cons_zero, List.drop_succ_cons, List.drop_zero, b58, b35]; omega)) (by first | omega | (simp only [LN, hne, w1, w2, List.getD_cons_zero, List.drop_succ_cons, List.drop_zero, b58, b35]; omega)) ?_) | (with_reducible refine pick_own default (by first | omega | (simp only [LN, hne, w1, w2, List.getD_cons_zero, List.drop_succ_cons, List.drop_zero, b58, b35]; omega)) ?_) | (with_reducible refine And.intro (by first | decide | omega | assumption | (simp only [LN, hne, w1, w2, List.getD_cons_zero, List.drop_succ_cons, List.drop_zero, b58, b35]; omega)) ?_) | ((with_reducible apply callK_pure); (first | exact n1 | exact n2 | exact n3 | exact cm | fail)) | ((with_reducible apply callF_lend); (first | exact n1 | exact n2 | exact n3 | exact cm | fail); rfl) | ((with_reducible apply callF_go); (first | exact n1 | exact n2 | exact n3 | exact cm | fail)) | ((with_reducible show pickE _ _ _); first | refine pickE_intro _ ⟨by omega, by rfl⟩ ?_ | refine pickE_intro _ (by rfl) ?_) | fail); try simp -dsimp -implicitDefEqProofs (maxSteps := 1000000) (disch := first | omega | (simp only [LN, hne, w1, w2, List.getD_cons_zero, List.drop_succ_cons, List.drop_zero, b58, b35]; omega)) only [go_sem, Int.reduceToNat, Int.reducePow, Nat.reducePow, Int.reduceAdd, Int.reduceMul, Int.reduceSub, Int.reduceNeg, Nat.reduceAdd, Nat.reduceMul, Nat.reduceSub, Nat.reduceEqDiff, Nat.reduceLT, Nat.reduceLeDiff, hne, w1, w2, List.getD_cons_zero, List.drop_succ_cons, List.drop_zero, b58, b35])
                    | fail)
                  all_goals first | rfl | omega | (simp at *; done) | trace_state
                · by_cases hd3 : d3.length = 0
                  · obtain rfl : d3 = [] := List.length_eq_zero_iff.1 hd3
                    have hr2 : ¬ (v1 ≤ 127 ∧ v3 ≤ 65535) := fun hh => hr ⟨hh.1, hh.2, rfl⟩
                    repeat' (first
                      | (with_reducible first | refine r_seq ?_ | refine r_block ?_ | refine fork_not ?_ | refine fork_and ?_ | refine fork_or ?_ | refine chk_ok (by kernel_rfl) ?_)
                      | ((with_reducible first | refine fork_dec ?_ ?_ | refine fork_eq ?_ ?_ | refine fork_ne ?_ ?_ | refine fork_intro ?_ ?_) <;> intro h <;> try (exfalso; first | omega | exact h rfl | (revert h; decide) | (cases h; done)))
                      | ((with_reducible show False); omega)
                      | ((first | (with_reducible first | refine r_exit ?_ | refine r_skip ?_ | refine r_cond ?_ | refine r_region ?_ | show VX _ _ _ _ _ _ _ | show vstep _ _ _ _ _ | show vskip _ _ _ | show withV _ _) | ((with_reducible show endA _ _ _ _ _ _ _); simp -implicitDefEqProofs only [endA])); simp -dsimp -implicitDefEqProofs (maxSteps := 1000000) (disch := first | omega | (simp only [LN, hne, List.getD_cons_zero, List.drop_succ_cons, List.drop_zero, b58, b35]; omega)) only [go_sem, Int.reduceToNat, Int.reducePow, Nat.reducePow, Int.reduceAdd, Int.reduceMul, Int.reduceSub, Int.reduceNeg, Nat.reduceAdd, Nat.reduceMul, Nat.reduceSub, Nat.reduceEqDiff, Nat.reduceLT, Nat.reduceLeDiff, hne, List.getD_cons_zero, List.drop_succ_cons, List.drop_zero, b58, b35])
                      | ((first | (with_reducible refine r_ret ?_) | (with_reducible refine pick_viewG default (by first | omega | (simp only [LN, hne, List.getD_cons_zero, List.drop_succ_cons, List.drop_zero, b58, b35]; omega)) (by first | omega | (simp only [LN, hne, List.getD_cons_zero, List.drop_succ_cons, List.drop_zero, b58, b35]; omega)) ?_) | (with_reducible refine pick_own default (by first | omega | (simp only [LN, hne, List.getD_cons_zero, List.drop_succ_cons, List.drop_zero, b58, b35]; omega)) ?_) | (with_reducible refine And.intro (by first | decide | omega | assumption | (simp only [LN, hne, List.getD_cons_zero, List.drop_succ_cons, List.drop_zero, b58, b35]; omega)) ?_) | ((with_reducible apply callK_pure); (first | exact n1 | exact n2 | exact n3 | fail)) | ((with_reducible apply callF_lend); (first | exact n1 | exact n2 | exact n3 | fail); rfl) | ((with_reducible apply callF_go); (first | exact n1 | exact n2 | exact n3 | fail)) | ((with_reducible show pickE _ _ _); first | refine pickE_intro _ ⟨by omega, by rfl⟩ ?_ | refine pickE_intro _ (by rfl) ?_) | fail); try simp -dsimp -implicitDefEqProofs (maxSteps := 1000000) (disch := first | omega | (simp only [LN, hne, List.getD_cons_zero, List.drop_succ_cons, List.drop_zero, b58, b35]; omega)) only [go_sem, Int.reduceToNat, Int.reducePow, Nat.reducePow, Int.reduceAdd, Int.reduceMul, Int.reduceSub, Int.reduceNeg, Nat.reduceAdd, Nat.reduceMul, Nat.reduceSub, Nat.reduceEqDiff, Nat.reduceLT, Nat.reduceLeDiff, hne, List.getD_cons_zero, List.drop_succ_cons, List.drop_zero, b58, b35])
                      | fail)
                    all_goals first | rfl | omega | (simp at *; done) | trace_state
                  · repeat' (first
                      | (with_reducible first | refine r_seq ?_ | refine r_block ?_ | refine fork_not ?_ | refine fork_and ?_ | refine fork_or ?_ | refine chk_ok (by kernel_rfl) ?_)
                      | ((with_reducible first | refine fork_dec ?_ ?_ | refine fork_eq ?_ ?_ | refine fork_ne ?_ ?_ | refine fork_intro ?_ ?_) <;> intro h <;> try (exfalso; first | omega | exact h rfl | (revert h; decide) | (cases h; done)))
                      | ((with_reducible show False); omega)
                      | ((first | (with_reducible first | refine r_exit ?_ | refine r_skip ?_ | refine r_cond ?_ | refine r_region ?_ | show VX _ _ _ _ _ _ _ | show vstep _ _ _ _ _ | show vskip _ _ _ | show withV _ _) | ((with_reducible show endA _ _ _ _ _ _ _); simp -implicitDefEqProofs only [endA])); simp -dsimp -implicitDefEqProofs (maxSteps := 1000000) (disch := first | omega | (simp only [LN, hne, List.getD_cons_zero, List.drop_succ_cons, List.drop_zero, b58, b35]; omega)) only [go_sem, Int.reduceToNat, Int.reducePow, Nat.reducePow, Int.reduceAdd, Int.reduceMul, Int.reduceSub, Int.reduceNeg, Nat.reduceAdd, Nat.reduceMul, Nat.reduceSub, Nat.reduceEqDiff, Nat.reduceLT, Nat.reduceLeDiff, hne, List.getD_cons_zero, List.drop_succ_cons, List.drop_zero, b58, b35])
                      | ((first | (with_reducible refine r_ret ?_) | (with_reducible refine pick_viewG default (by first | omega | (simp only [LN, hne, List.getD_cons_zero, List.drop_succ_cons, List.drop_zero, b58, b35]; omega)) (by first | omega | (simp only [LN, hne, List.getD_cons_zero, List.drop_succ_cons, List.drop_zero, b58, b35]; omega)) ?_) | (with_reducible refine pick_own default (by first | omega | (simp only [LN, hne, List.getD_cons_zero, List.drop_succ_cons, List.drop_zero, b58, b35]; omega)) ?_) | (with_reducible refine And.intro (by first | decide | omega | assumption | (simp only [LN, hne, List.getD_cons_zero, List.drop_succ_cons, List.drop_zero, b58, b35]; omega)) ?_) | ((with_reducible apply callK_pure); (first | exact n1 | exact n2 | exact n3 | fail)) | ((with_reducible apply callF_lend); (first | exact n1 | exact n2 | exact n3 | fail); rfl) | ((with_reducible apply callF_go); (first | exact n1 | exact n2 | exact n3 | fail)) | ((with_reducible show pickE _ _ _); first | refine pickE_intro _ ⟨by omega, by rfl⟩ ?_ | refine pickE_intro _ (by rfl) ?_) | fail); try simp -dsimp -implicitDefEqProofs (maxSteps := 1000000) (disch := first | omega | (simp only [LN, hne, List.getD_cons_zero, List.drop_succ_cons, List.drop_zero, b58, b35]; omega)) only [go_sem, Int.reduceToNat, Int.reducePow, Nat.reducePow, Int.reduceAdd, Int.reduceMul, Int.reduceSub, Int.reduceNeg, Nat.reduceAdd, Nat.reduceMul, Nat.reduceSub, Nat.reduceEqDiff, Nat.reduceLT, Nat.reduceLeDiff, hne, List.getD_cons_zero, List.drop_succ_cons, List.drop_zero, b58, b35])
                      | fail)
                    all_goals first | rfl | omega | (simp at *; done) | trace_state
            · have hy2 : ¬ (y.toNat : Int) = 35 := fun e => hy (u8_ext (by show y.toNat = 35; omega))
              repeat' (first
                | (with_reducible first | refine r_seq ?_ | refine r_block ?_ | refine fork_not ?_ | refine fork_and ?_ | refine fork_or ?_ | refine chk_ok (by kernel_rfl) ?_)
                | ((with_reducible first | refine fork_dec ?_ ?_ | refine fork_eq ?_ ?_ | refine fork_ne ?_ ?_ | refine fork_intro ?_ ?_) <;> intro h <;> try (exfalso; first | omega | exact h rfl | (revert h; decide) | (cases h; done)))
                | ((with_reducible show False); omega)
                | ((first | (with_reducible first | refine r_exit ?_ | refine r_skip ?_ | refine r_cond ?_ | refine r_region ?_ | show VX _ _ _ _ _ _ _ | show vstep _ _ _ _ _ | show vskip _ _ _ | show withV _ _) | ((with_reducible show endA _ _ _ _ _ _ _); simp -implicitDefEqProofs only [endA])); simp -dsimp -implicitDefEqProofs (maxSteps := 1000000) (disch := first | omega | (simp only [LN, hne, List.getD_cons_zero, List.drop_succ_cons, List.drop_zero, b58]; omega)) only [go_sem, Int.reduceToNat, Int.reducePow, Nat.reducePow, Int.reduceAdd, Int.reduceMul, Int.reduceSub, Int.reduceNeg, Nat.reduceAdd, Nat.reduceMul, Nat.reduceSub, Nat.reduceEqDiff, Nat.reduceLT, Nat.reduceLeDiff, hne, List.getD_cons_zero, List.drop_succ_cons, List.drop_zero, b58])
                | ((first | (with_reducible refine r_ret ?_) | (with_reducible refine pick_viewG default (by first | omega | (simp only [LN, hne, List.getD_cons_zero, List.drop_succ_cons, List.drop_zero, b58]; omega)) (by first | omega | (simp only [LN, hne, List.getD_cons_zero, List.drop_succ_cons, List.drop_zero, b58]; omega)) ?_) | (with_reducible refine pick_own default (by first | omega | (simp only [LN, hne, List.getD_cons_zero, List.drop_succ_cons, List.drop_zero, b58]; omega)) ?_) | (with_reducible refine And.intro (by first | decide | omega | assumption | (simp only [LN, hne, List.getD_cons_zero, List.drop_succ_cons, List.drop_zero, b58]; omega)) ?_) | ((with_reducible apply callK_pure); (first | exact n1 | exact n2 | fail)) | ((with_reducible apply callF_lend); (first | exact n1 | exact n2 | fail); rfl) | ((with_reducible apply callF_go); (first | exact n1 | exact n2 | fail)) | ((with_reducible show pickE _ _ _); first | refine pickE_intro _ ⟨by omega, by rfl⟩ ?_ | refine pickE_intro _ (by rfl) ?_) | fail); try simp -dsimp -implicitDefEqProofs (maxSteps := 1000000) (disch := first | omega | (simp only [LN, hne, List.getD_cons_zero, List.drop_succ_cons, List.drop_zero, b58]; omega)) only [go_sem, Int.reduceToNat, Int.reducePow, Nat.reducePow, Int.reduceAdd, Int.reduceMul, Int.reduceSub, Int.reduceNeg, Nat.reduceAdd, Nat.reduceMul, Nat.reduceSub, Nat.reduceEqDiff, Nat.reduceLT, Nat.reduceLeDiff, hne, List.getD_cons_zero, List.drop_succ_cons, List.drop_zero, b58])
                | fail)
              all_goals first | rfl | omega | (simp at *; done) | trace_state
      · have hx2 : ¬ (x.toNat : Int) = 58 := fun e => hx (u8_ext (by show x.toNat = 58; omega))
        repeat' (first
          | (with_reducible first | refine r_seq ?_ | refine r_block ?_ | refine fork_not ?_ | refine fork_and ?_ | refine fork_or ?_ | refine chk_ok (by kernel_rfl) ?_)
          | ((with_reducible first | refine fork_dec ?_ ?_ | refine fork_eq ?_ ?_ | refine fork_ne ?_ ?_ | refine fork_intro ?_ ?_) <;> intro h <;> try (exfalso; first | omega | exact h rfl | (revert h; decide) | (cases h; done)))
          | ((with_reducible show False); omega)
          | ((first | (with_reducible first | refine r_exit ?_ | refine r_skip ?_ | refine r_cond ?_ | refine r_region ?_ | show VX _ _ _ _ _ _ _ | show vstep _ _ _ _ _ | show vskip _ _ _ | show withV _ _) | ((with_reducible show endA _ _ _ _ _ _ _); simp -implicitDefEqProofs only [endA])); simp -dsimp -implicitDefEqProofs (maxSteps := 1000000) (disch := first | omega | (simp only [LN, hne, List.getD_cons_zero]; omega)) only [go_sem, Int.reduceToNat, Int.reducePow, Nat.reducePow, Int.reduceAdd, Int.reduceMul, Int.reduceSub, Int.reduceNeg, Nat.reduceAdd, Nat.reduceMul, Nat.reduceSub, Nat.reduceEqDiff, Nat.reduceLT, Nat.reduceLeDiff, hne, List.getD_cons_zero])
          | ((first | (with_reducible refine r_ret ?_) | (with_reducible refine pick_viewG default (by first | omega | (simp only [LN, hne, List.getD_cons_zero]; omega)) (by first | omega | (simp only [LN, hne, List.getD_cons_zero]; omega)) ?_) | (with_reducible refine pick_own default (by first | omega | (simp only [LN, hne, List.getD_cons_zero]; omega)) ?_) | (with_reducible refine And.intro (by first | decide | omega | assumption | (simp only [LN, hne, List.getD_cons_zero]; omega)) ?_) | ((with_reducible apply callK_pure); (exact n1)) | ((with_reducible apply callF_lend); (exact n1); rfl) | ((with_reducible apply callF_go); (exact n1)) | ((with_reducible show pickE _ _ _); first | refine pickE_intro _ ⟨by omega, by rfl⟩ ?_ | refine pickE_intro _ (by rfl) ?_) | fail); try simp -dsimp -implicitDefEqProofs (maxSteps := 1000000) (disch := first | omega | (simp only [LN, hne, List.getD_cons_zero]; omega)) only [go_sem, Int.reduceToNat, Int.reducePow, Nat.reducePow, Int.reduceAdd, Int.reduceMul, Int.reduceSub, Int.reduceNeg, Nat.reduceAdd, Nat.reduceMul, Nat.reduceSub, Nat.reduceEqDiff, Nat.reduceLT, Nat.reduceLeDiff, hne, List.getD_cons_zero])
          | fail)
        all_goals first | rfl | omega | (simp at *; done) | trace_state
end Go.Proofs.YtkmobahedfdikaaDoor
