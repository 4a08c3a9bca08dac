/- Contracts of functions of this program, and the plain facts that they rest on. No conditions. -/
import Derived.Test.YtjoojmmfelmgkaaDoorD15
set_option linter.unusedSimpArgs false
set_option linter.unusedVariables false
namespace Go.Proofs.YtjoojmmfelmgkaaDoor
open Go Go.Ab
attribute [local irreducible] callK callF loopQ vstep vskip pickE hideP
set_option maxRecDepth 100000
theorem num_ns (n : Int) (x : UInt8) (hx : x = 32 ∨ x = 10) : x ∉ numL n := by
  intro h
  unfold numL Lib.itoa at h
  have key : ∀ u, x ∈ Lib.decDigits u → False := fun u hu => by
    have := dec_digit u x hu
    rcases hx with rfl | rfl
    · have e : (32 : UInt8).toNat = 32 := rfl
      omega
    · have e : (10 : UInt8).toNat = 10 := rfl
      omega
  split at h
  · rcases List.mem_cons.1 h with h | h
    · subst h; rcases hx with h | h <;> exact absurd h (by decide)
    · exact key _ h
  · exact key _ h
theorem kind_ns (k : Int) (h : 1 ≤ k ∧ k ≤ 9) (x : UInt8) (hx : x = 32 ∨ x = 10) : x ∉ kindL k := by
  unfold kindL
  obtain ⟨m, hm, hl⟩ : ∃ m : Nat, (k - 1).toNat = m ∧ m < 9 := ⟨_, rfl, by omega⟩
  rw [hm]
  rcases hx with rfl | rfl
  · match m, hl with
    | 0, _ | 1, _ | 2, _ | 3, _ | 4, _ | 5, _ | 6, _ | 7, _ | 8, _ => decide
  · match m, hl with
    | 0, _ | 1, _ | 2, _ | 3, _ | 4, _ | 5, _ | 6, _ | 7, _ | 8, _ => decide
theorem bool_ns (b : Bool) (x : UInt8) (hx : x = 32 ∨ x = 10) : x ∉ boolL b := by
  rcases hx with rfl | rfl <;> cases b <;> decide
def wsB (th k key val old : Int) : List (List UInt8) := [[98, 101, 103, 105, 110], numL th, kindL k, numL key, numL val, numL old]
def wsE (i rv : Int) (ok : Bool) (code : Int) : List (List UInt8) := [[101, 110, 100], numL i, numL rv, boolL ok, numL code]
theorem beginT_j (c : C) : beginT c = joinL 32 (wsB c.th c.k c.key c.val c.old) := by
  rw [beg_e]
  simp only [wsB, joinL]
  simp only [List.append_assoc, List.cons_append, List.nil_append]
theorem endT_j (i rv : Int) (ok : Bool) (code : Int) : endT i rv ok code = joinL 32 (wsE i rv ok code) := by
  simp only [wsE, joinL, endT]
  simp only [List.append_assoc, List.cons_append, List.nil_append]
theorem wsB_ns (th k key val old : Int) (hk : 1 ≤ k ∧ k ≤ 9) : ∀ w, w ∈ wsB th k key val old → (32 : UInt8) ∉ w := by
  intro w hw
  simp only [wsB, List.mem_cons, List.not_mem_nil, or_false] at hw
  rcases hw with rfl | rfl | rfl | rfl | rfl | rfl
  · decide
  · exact num_ns _ _ (.inl rfl)
  · exact kind_ns _ hk _ (.inl rfl)
  · exact num_ns _ _ (.inl rfl)
  · exact num_ns _ _ (.inl rfl)
  · exact num_ns _ _ (.inl rfl)
theorem wsE_ns (i rv : Int) (ok : Bool) (code : Int) : ∀ w, w ∈ wsE i rv ok code → (32 : UInt8) ∉ w := by
  intro w hw
  simp only [wsE, List.mem_cons, List.not_mem_nil, or_false] at hw
  rcases hw with rfl | rfl | rfl | rfl | rfl
  · decide
  · exact num_ns _ _ (.inl rfl)
  · exact num_ns _ _ (.inl rfl)
  · exact bool_ns _ _ (.inl rfl)
  · exact num_ns _ _ (.inl rfl)
theorem beginT_len {c : C} (h : RngI c) : (beginT c).length ≤ 200 := by
  have h1 := beginH_len h
  have h2 := argT_len h 3
  simp only [beginT, List.length_append]; omega
theorem endT_len {i rv : Int} {ok : Bool} {code : Int} (h1 : 0 ≤ i ∧ i ≤ 1000000) (h2 : 0 ≤ rv ∧ rv ≤ 18446744073709551615) (h3 : -9223372036854775808 ≤ code ∧ code ≤ 9223372036854775807) : (endT i rv ok code).length ≤ 200 := by
  have g1 := numL_len (n := i) (by omega)
  have g2 := numL_len (n := rv) (by omega)
  have g3 := numL_len (n := code) (by omega)
  have g4 := boolL_len ok
  simp only [endT, List.length_append, List.length_cons, List.length_nil]; omega
attribute [local go_sem] eC rC eE hc hP hW hX oW oP sR oH newC eS eT fV
attribute [local irreducible] doH playH h0 playN numL kindL kinds boolL joinL
set_option maxRecDepth 100000 in
set_option maxHeartbeats 4000000 in
theorem a39c (x : H) (he : 0 ≤ x.era ∧ x.era ≤ 100000) (hn : x.ev.length ≤ 100000) (hl : x.cl.length ≤ 100000) : ACalls Tryd.prog 39 [.loc 0 0, .p (.v (.string (bs (joinL 32 [[99, 114, 97, 115, 104]]))))] [oH x 1 2, .arr 2 (x.ev.map eE), .arr 11 (x.cl.map eC)] (.p (.v (.int .i64 0))) [oH (crashH x) 3 4, .dead, .dead, .arr 2 ((crashH x).ev.map eE), .arr 11 ((crashH x).cl.map eC)] := by
  refine acalls_of (E := E) (fn := Tryd.f39) 73 [.tmp 4] rfl rfl rfl rfl (by decide) rfl rfl ?_
  have k48 := c48 [[99, 114, 97, 115, 104]] (by simp) (by decide) (by unfold joinL; decide) (by decide)
  repeat' (first
    | (with_reducible first | refine r_seq ?_ | refine r_block ?_ | refine fork_not ?_ | refine fork_and ?_ | refine fork_or ?_ | refine chk_ok (by kernel_rfl) ?_)
    | ((with_reducible first | refine fork_dec ?_ ?_ | refine fork_eq ?_ ?_ | refine fork_ne ?_ ?_ | refine fork_intro ?_ ?_) <;> intro h <;> try (exfalso; first | omega | exact h rfl | (revert h; decide) | (cases h; done)))
    | ((with_reducible show False); omega)
    | ((first | (with_reducible first | refine r_exit ?_ | refine r_skip ?_ | refine r_cond ?_ | refine r_region ?_ | show VX _ _ _ _ _ _ _ | show vstep _ _ _ _ _ | show vskip _ _ _ | show withV _ _) | ((with_reducible show endA _ _ _ _ _ _ _); simp -implicitDefEqProofs only [endA])); simp -dsimp -implicitDefEqProofs (maxSteps := 1000000) (disch := first | omega | (simp only [LN, List.getD_cons_zero, List.drop_succ_cons, List.drop_zero, crashH]; omega)) only [go_sem, Int.reduceToNat, Int.reducePow, Nat.reducePow, Int.reduceAdd, Int.reduceMul, Int.reduceSub, Int.reduceNeg, Nat.reduceAdd, Nat.reduceMul, Nat.reduceSub, Nat.reduceEqDiff, Nat.reduceLT, Nat.reduceLeDiff, List.getD_cons_zero, List.drop_succ_cons, List.drop_zero, crashH])
    | ((first | (with_reducible refine r_ret ?_) | (with_reducible refine pick_viewG default (by first | omega | (simp only [LN, List.getD_cons_zero, List.drop_succ_cons, List.drop_zero, crashH]; omega)) (by first | omega | (simp only [LN, List.getD_cons_zero, List.drop_succ_cons, List.drop_zero, crashH]; omega)) ?_) | (with_reducible refine pick_own default (by first | omega | (simp only [LN, List.getD_cons_zero, List.drop_succ_cons, List.drop_zero, crashH]; omega)) ?_) | (with_reducible refine And.intro (by first | decide | omega | assumption | (simp only [LN, List.getD_cons_zero, List.drop_succ_cons, List.drop_zero, crashH]; omega)) ?_) | ((with_reducible apply callK_pure); (exact k48)) | ((with_reducible apply callF_lend); (exact k48); rfl) | ((with_reducible apply callF_go); (exact k48)) | (with_reducible first | apply callK_lent | apply callF_lent | apply hideP_own) | ((with_reducible apply callA_go); (first | exact a17 x (by omega) (by omega) (by omega) | fail)) | ((with_reducible show pickE _ _ _); first | refine pickE_intro _ ⟨by omega, by rfl⟩ ?_ | refine pickE_intro _ (by rfl) ?_) | fail); try simp -dsimp -implicitDefEqProofs (maxSteps := 1000000) (disch := first | omega | (simp only [LN, List.getD_cons_zero, List.drop_succ_cons, List.drop_zero, crashH]; omega)) only [go_sem, Int.reduceToNat, Int.reducePow, Nat.reducePow, Int.reduceAdd, Int.reduceMul, Int.reduceSub, Int.reduceNeg, Nat.reduceAdd, Nat.reduceMul, Nat.reduceSub, Nat.reduceEqDiff, Nat.reduceLT, Nat.reduceLeDiff, List.getD_cons_zero, List.drop_succ_cons, List.drop_zero, crashH])
    | fail)
  all_goals first | (exact absurd rfl h) | trace_state
set_option maxRecDepth 100000 in
set_option maxHeartbeats 4000000 in
theorem a39b (x : H) (th k key val old : Int) (ht : 0 ≤ th ∧ th < 8) (hk : 1 ≤ k ∧ k ≤ 9) (h1 : 0 ≤ key ∧ key ≤ 18446744073709551615) (h2 : 0 ≤ val ∧ val ≤ 18446744073709551615) (h3 : 0 ≤ old ∧ old ≤ 18446744073709551615) (hb : x.b th.toNat = false) (hlen : (joinL 32 (wsB th k key val old)).length ≤ 200) (hn : x.ev.length ≤ 100000) (hl : x.cl.length ≤ 100000) : ACalls Tryd.prog 39 [.loc 0 0, .p (.v (.string (bs (joinL 32 (wsB th k key val old)))))] [oH x 1 2, .arr 2 (x.ev.map eE), .arr 11 (x.cl.map eC)] (.p (.v (.int .i64 0))) [oH (invH x th k key val old) 3 4, .dead, .dead, .arr 2 ((invH x th k key val old).ev.map eE), .arr 11 ((invH x th k key val old).cl.map eC)] := by
  refine acalls_of (E := E) (fn := Tryd.f39) 73 [.tmp 4] rfl rfl rfl rfl (by decide) rfl rfl ?_
  have k48 := c48 (wsB th k key val old) (by simp [wsB]) (wsB_ns th k key val old hk) (by omega) (by simp [wsB])
  rw [show (wsB th k key val old).map eT = [eT [98, 101, 103, 105, 110], eT (numL th), eT (kindL k), eT (numL key), eT (numL val), eT (numL old)] from rfl] at k48
  repeat' (first
    | (with_reducible first | refine r_seq ?_ | refine r_block ?_ | refine fork_not ?_ | refine fork_and ?_ | refine fork_or ?_ | refine chk_ok (by kernel_rfl) ?_)
    | ((with_reducible first | refine fork_dec ?_ ?_ | refine fork_eq ?_ ?_ | refine fork_ne ?_ ?_ | refine fork_intro ?_ ?_) <;> intro h <;> try (exfalso; first | omega | exact h rfl | (revert h; decide) | (cases h; done)))
    | ((with_reducible show False); omega)
    | ((first | (with_reducible first | refine r_exit ?_ | refine r_skip ?_ | refine r_cond ?_ | refine r_region ?_ | show VX _ _ _ _ _ _ _ | show vstep _ _ _ _ _ | show vskip _ _ _ | show withV _ _) | ((with_reducible show endA _ _ _ _ _ _ _); simp -implicitDefEqProofs only [endA])); simp -dsimp -implicitDefEqProofs (maxSteps := 1000000) (disch := first | omega | (simp only [LN, List.getD_cons_zero, List.drop_succ_cons, List.drop_zero, invH]; omega)) only [go_sem, Int.reduceToNat, Int.reducePow, Nat.reducePow, Int.reduceAdd, Int.reduceMul, Int.reduceSub, Int.reduceNeg, Nat.reduceAdd, Nat.reduceMul, Nat.reduceSub, Nat.reduceEqDiff, Nat.reduceLT, Nat.reduceLeDiff, List.getD_cons_zero, List.drop_succ_cons, List.drop_zero, invH])
    | ((first | (with_reducible refine r_ret ?_) | (with_reducible refine pick_viewG default (by first | omega | (simp only [LN, List.getD_cons_zero, List.drop_succ_cons, List.drop_zero, invH]; omega)) (by first | omega | (simp only [LN, List.getD_cons_zero, List.drop_succ_cons, List.drop_zero, invH]; omega)) ?_) | (with_reducible refine pick_own default (by first | omega | (simp only [LN, List.getD_cons_zero, List.drop_succ_cons, List.drop_zero, invH]; omega)) ?_) | (with_reducible refine And.intro (by first | decide | omega | assumption | (simp only [LN, List.getD_cons_zero, List.drop_succ_cons, List.drop_zero, invH]; omega)) ?_) | ((with_reducible apply callK_pure); (exact k48)) | ((with_reducible apply callF_lend); (exact k48); rfl) | ((with_reducible apply callF_go); (exact k48)) | (with_reducible first | apply callK_lent | apply callF_lent | apply hideP_own) | ((with_reducible apply callA_go); (first | exact a49 th (by omega) [kindL k, numL key, numL val, numL old] false (by simp) | exact a50 k hk [numL key, numL val, numL old] false (by simp) | exact a51 key h1 [numL val, numL old] false (by simp) | exact a51 val h2 [numL old] false (by simp) | exact a51 old h3 [] false (by simp) | exact a18o x th k key val old ht hk hb (by omega) (by omega) | fail)) | ((with_reducible show pickE _ _ _); first | refine pickE_intro _ ⟨by omega, by rfl⟩ ?_ | refine pickE_intro _ (by rfl) ?_) | fail); try simp -dsimp -implicitDefEqProofs (maxSteps := 1000000) (disch := first | omega | (simp only [LN, List.getD_cons_zero, List.drop_succ_cons, List.drop_zero, invH]; omega)) only [go_sem, Int.reduceToNat, Int.reducePow, Nat.reducePow, Int.reduceAdd, Int.reduceMul, Int.reduceSub, Int.reduceNeg, Nat.reduceAdd, Nat.reduceMul, Nat.reduceSub, Nat.reduceEqDiff, Nat.reduceLT, Nat.reduceLeDiff, List.getD_cons_zero, List.drop_succ_cons, List.drop_zero, invH])
    | fail)
  all_goals first | (exact absurd rfl h) | omega | trace_state
set_option maxRecDepth 100000 in
set_option maxHeartbeats 4000000 in
theorem a39e (x : H) (i rv : Int) (ok : Bool) (code : Int) (hi : 0 ≤ i ∧ i ≤ 1000000) (h1 : 0 ≤ rv ∧ rv ≤ 18446744073709551615) (h2 : -9223372036854775808 ≤ code ∧ code ≤ 9223372036854775807) (hp : pendM x.cl i) (he : (x.cl.getD i.toNat default).era = x.era) (ht : 0 ≤ (x.cl.getD i.toNat default).th ∧ (x.cl.getD i.toNat default).th < 8) (hlen : (joinL 32 (wsE i rv ok code)).length ≤ 200) (hn : x.ev.length ≤ 100000) (hl : x.cl.length ≤ 100000) : ACalls Tryd.prog 39 [.loc 0 0, .p (.v (.string (bs (joinL 32 (wsE i rv ok code)))))] [oH x 1 2, .arr 2 (x.ev.map eE), .arr 11 (x.cl.map eC)] (.p (.v (.int .i64 0))) [oH (retH x i rv ok code) 3 4, .dead, .dead, .arr 2 ((retH x i rv ok code).ev.map eE), .arr 11 ((retH x i rv ok code).cl.map eC)] := by
  refine acalls_of (E := E) (fn := Tryd.f39) 73 [.tmp 4] rfl rfl rfl rfl (by decide) rfl rfl ?_
  have k48 := c48 (wsE i rv ok code) (by simp [wsE]) (wsE_ns i rv ok code) (by omega) (by simp [wsE])
  rw [show (wsE i rv ok code).map eT = [eT [101, 110, 100], eT (numL i), eT (numL rv), eT (boolL ok), eT (numL code)] from rfl] at k48
  repeat' (first
    | (with_reducible first | refine r_seq ?_ | refine r_block ?_ | refine fork_not ?_ | refine fork_and ?_ | refine fork_or ?_ | refine chk_ok (by kernel_rfl) ?_)
    | ((with_reducible first | refine fork_dec ?_ ?_ | refine fork_eq ?_ ?_ | refine fork_ne ?_ ?_ | refine fork_intro ?_ ?_) <;> intro h <;> try (exfalso; first | omega | exact h rfl | (revert h; decide) | (cases h; done)))
    | ((with_reducible show False); omega)
    | ((first | (with_reducible first | refine r_exit ?_ | refine r_skip ?_ | refine r_cond ?_ | refine r_region ?_ | show VX _ _ _ _ _ _ _ | show vstep _ _ _ _ _ | show vskip _ _ _ | show withV _ _) | ((with_reducible show endA _ _ _ _ _ _ _); simp -implicitDefEqProofs only [endA])); simp -dsimp -implicitDefEqProofs (maxSteps := 1000000) (disch := first | omega | (simp only [LN, List.getD_cons_zero, List.drop_succ_cons, List.drop_zero, retH]; omega)) only [go_sem, Int.reduceToNat, Int.reducePow, Nat.reducePow, Int.reduceAdd, Int.reduceMul, Int.reduceSub, Int.reduceNeg, Nat.reduceAdd, Nat.reduceMul, Nat.reduceSub, Nat.reduceEqDiff, Nat.reduceLT, Nat.reduceLeDiff, List.getD_cons_zero, List.drop_succ_cons, List.drop_zero, retH])
    | ((first | (with_reducible refine r_ret ?_) | (with_reducible refine pick_viewG default (by first | omega | (simp only [LN, List.getD_cons_zero, List.drop_succ_cons, List.drop_zero, retH]; omega)) (by first | omega | (simp only [LN, List.getD_cons_zero, List.drop_succ_cons, List.drop_zero, retH]; omega)) ?_) | (with_reducible refine pick_own default (by first | omega | (simp only [LN, List.getD_cons_zero, List.drop_succ_cons, List.drop_zero, retH]; omega)) ?_) | (with_reducible refine And.intro (by first | decide | omega | assumption | (simp only [LN, List.getD_cons_zero, List.drop_succ_cons, List.drop_zero, retH]; omega)) ?_) | ((with_reducible apply callK_pure); (exact k48)) | ((with_reducible apply callF_lend); (exact k48); rfl) | ((with_reducible apply callF_go); (exact k48)) | (with_reducible first | apply callK_lent | apply callF_lent | apply hideP_own) | ((with_reducible apply callA_go); (first | exact a49 i (by omega) [numL rv, boolL ok, numL code] false (by simp) | exact a51 rv h1 [boolL ok, numL code] false (by simp) | exact a52 ok [numL code] false (by simp) | exact a53 code h2 [] false (by simp) | exact a20o x i rv ok code hp he ht (by omega) (by omega) | fail)) | ((with_reducible show pickE _ _ _); first | refine pickE_intro _ ⟨by omega, by rfl⟩ ?_ | refine pickE_intro _ (by rfl) ?_) | fail); try simp -dsimp -implicitDefEqProofs (maxSteps := 1000000) (disch := first | omega | (simp only [LN, List.getD_cons_zero, List.drop_succ_cons, List.drop_zero, retH]; omega)) only [go_sem, Int.reduceToNat, Int.reducePow, Nat.reducePow, Int.reduceAdd, Int.reduceMul, Int.reduceSub, Int.reduceNeg, Nat.reduceAdd, Nat.reduceMul, Nat.reduceSub, Nat.reduceEqDiff, Nat.reduceLT, Nat.reduceLeDiff, List.getD_cons_zero, List.drop_succ_cons, List.drop_zero, retH])
    | fail)
  all_goals first | (exact absurd rfl h) | omega | trace_state
end Go.Proofs.YtjoojmmfelmgkaaDoor
