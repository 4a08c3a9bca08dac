/- Contracts of functions of this program, and the plain facts that they rest on. No conditions. -/
import Derived.Test.YtkmobahedfdikaaDoorD10
set_option linter.unusedSimpArgs false
set_option linter.unusedVariables false
namespace Go.Proofs.YtkmobahedfdikaaDoor
open Go Go.Ab
attribute [local irreducible] callK callF loopQ vstep vskip pickE hideP
open Go.RowKit
set_option maxRecDepth 100000
attribute [local go_sem] toList_bs ext_bs beq_dec bs_size bs_list bs_inj app_bs byteAt_bs
theorem num_bs (n : Int) : num n = bs (Lib.decDigits n.toNat) := rfl
theorem text_three (p : Int) : textM p = bs (three (kindM p).toNat (offM p).toNat (genM p).toNat) := by
  unfold textM three
  rw [num_bs, num_bs, num_bs]
  show (((bs _ ++ bs [58]) ++ bs _) ++ bs [35]) ++ bs _ = _
  rw [app_bs, app_bs, app_bs, app_bs]
  simp
theorem num_len (n : Nat) (h : n ≤ 18446744073709551615) : (Lib.decDigits n).length ≤ 20 := by rw [Lib.decDigits_length]; exact Lib.nDigits_le20 n (by omega)
theorem three_len {k o g : Nat} (h1 : k ≤ 255) (h2 : o ≤ 18446744073709551615) (h3 : g ≤ 65535) : (three k o g).length ≤ 62 := by
  have := num_len k (by omega)
  have := num_len o h2
  have := num_len g (by omega)
  simp only [three, List.length_append, List.length_cons]; omega
set_option maxRecDepth 100000 in
set_option maxHeartbeats 4000000 in
theorem c27z  : PCalls Tryd.prog 27 [.v (.int .u64 0)] (.v (.string (bs [45]))) := by
  refine pcalls_of (E := E) (fn := Tryd.f27) 48 [.tmp 2] rfl rfl rfl rfl (by decide) rfl ?_
  repeat' (first
    | (with_reducible first | refine r_seq ?_ | refine r_block ?_ | refine fork_not ?_ | refine fork_and ?_ | refine fork_or ?_ | refine chk_ok (by kernel_rfl) ?_)
    | ((with_reducible first | refine fork_dec ?_ ?_ | refine fork_eq ?_ ?_ | refine fork_ne ?_ ?_ | refine fork_intro ?_ ?_) <;> intro h <;> try (exfalso; first | omega | exact h rfl | (revert h; decide) | (cases h; done)))
    | ((with_reducible show False); omega)
    | ((first | (with_reducible first | refine r_exit ?_ | refine r_skip ?_ | refine r_cond ?_ | refine r_region ?_ | show VX _ _ _ _ _ _ _ | show vstep _ _ _ _ _ | show vskip _ _ _ | show withV _ _) | ((with_reducible show endA _ _ _ _ _ _ _); simp -implicitDefEqProofs only [endA])); simp -dsimp -implicitDefEqProofs (maxSteps := 1000000) (disch := first | omega | (simp only [LN]; omega)) only [go_sem, Int.reduceToNat, Int.reducePow, Nat.reducePow, Int.reduceAdd, Int.reduceMul, Int.reduceSub, Int.reduceNeg, Nat.reduceAdd, Nat.reduceMul, Nat.reduceSub, Nat.reduceEqDiff, Nat.reduceLT, Nat.reduceLeDiff])
    | ((first | (with_reducible refine r_ret ?_) | (with_reducible refine pick_viewG default (by first | omega | (simp only [LN]; omega)) (by first | omega | (simp only [LN]; omega)) ?_) | (with_reducible refine pick_own default (by first | omega | (simp only [LN]; omega)) ?_) | (with_reducible refine And.intro (by first | decide | omega | assumption | (simp only [LN]; omega)) ?_) | ((with_reducible apply callK_pure); (exact c21 0)) | ((with_reducible apply callF_lend); (exact c21 0); rfl) | ((with_reducible apply callF_go); (exact c21 0)) | ((with_reducible show pickE _ _ _); first | refine pickE_intro _ ⟨by omega, by rfl⟩ ?_ | refine pickE_intro _ (by rfl) ?_) | fail); try simp -dsimp -implicitDefEqProofs (maxSteps := 1000000) (disch := first | omega | (simp only [LN]; omega)) only [go_sem, Int.reduceToNat, Int.reducePow, Nat.reducePow, Int.reduceAdd, Int.reduceMul, Int.reduceSub, Int.reduceNeg, Nat.reduceAdd, Nat.reduceMul, Nat.reduceSub, Nat.reduceEqDiff, Nat.reduceLT, Nat.reduceLeDiff])
    | fail)
  all_goals first | rfl | omega | trace_state
set_option maxRecDepth 100000 in
set_option maxHeartbeats 4000000 in
theorem c29z  : PCalls Tryd.prog 29 [.v (.int .u64 0)] (.v (.string (bs [45]))) := by
  refine pcalls_of (E := E) (fn := Tryd.f29) 41 [.tmp 2] rfl rfl rfl rfl (by decide) rfl ?_
  repeat' (first
    | (with_reducible first | refine r_seq ?_ | refine r_block ?_ | refine fork_not ?_ | refine fork_and ?_ | refine fork_or ?_ | refine chk_ok (by kernel_rfl) ?_)
    | ((with_reducible first | refine fork_dec ?_ ?_ | refine fork_eq ?_ ?_ | refine fork_ne ?_ ?_ | refine fork_intro ?_ ?_) <;> intro h <;> try (exfalso; first | omega | exact h rfl | (revert h; decide) | (cases h; done)))
    | ((with_reducible show False); omega)
    | ((first | (with_reducible first | refine r_exit ?_ | refine r_skip ?_ | refine r_cond ?_ | refine r_region ?_ | show VX _ _ _ _ _ _ _ | show vstep _ _ _ _ _ | show vskip _ _ _ | show withV _ _) | ((with_reducible show endA _ _ _ _ _ _ _); simp -implicitDefEqProofs only [endA])); simp -dsimp -implicitDefEqProofs (maxSteps := 1000000) (disch := first | omega | (simp only [LN]; omega)) only [go_sem, Int.reduceToNat, Int.reducePow, Nat.reducePow, Int.reduceAdd, Int.reduceMul, Int.reduceSub, Int.reduceNeg, Nat.reduceAdd, Nat.reduceMul, Nat.reduceSub, Nat.reduceEqDiff, Nat.reduceLT, Nat.reduceLeDiff])
    | ((first | (with_reducible refine r_ret ?_) | (with_reducible refine pick_viewG default (by first | omega | (simp only [LN]; omega)) (by first | omega | (simp only [LN]; omega)) ?_) | (with_reducible refine pick_own default (by first | omega | (simp only [LN]; omega)) ?_) | (with_reducible refine And.intro (by first | decide | omega | assumption | (simp only [LN]; omega)) ?_) | ((with_reducible show pickE _ _ _); first | refine pickE_intro _ ⟨by omega, by rfl⟩ ?_ | refine pickE_intro _ (by rfl) ?_) | fail); try simp -dsimp -implicitDefEqProofs (maxSteps := 1000000) (disch := first | omega | (simp only [LN]; omega)) only [go_sem, Int.reduceToNat, Int.reducePow, Nat.reducePow, Int.reduceAdd, Int.reduceMul, Int.reduceSub, Int.reduceNeg, Nat.reduceAdd, Nat.reduceMul, Nat.reduceSub, Nat.reduceEqDiff, Nat.reduceLT, Nat.reduceLeDiff])
    | fail)
  all_goals first | rfl | omega | trace_state
theorem c27g (p : Int) (h0 : 0 ≤ p) (hf : formedM p = true) : PCalls Tryd.prog 27 [.v (.int .u64 p)] (.v (.string (bs (three (kindM p).toNat (offM p).toNat (genM p).toNat)))) := by
  rw [← text_three]; exact c27f p h0 hf
theorem formed_ne {p : Int} (hf : formedM p = true) : ¬ p = 0 := by rintro rfl; revert hf; decide
theorem c35i (n : Int) (h0 : 0 ≤ n) (h1 : n ≤ 18446744073709551615) : PCalls Tryd.prog 35 [.v (.int .u64 n)] (.v (.string (bs (Lib.decDigits n.toNat)))) := by
  have := c35 n.toNat (by omega)
  rw [show ((n.toNat : Nat) : Int) = n by omega] at this
  exact this
set_option maxRecDepth 100000 in
set_option maxHeartbeats 4000000 in
theorem c29g (p : Int) (h0 : 0 ≤ p) (h1 : p ≤ 18446744073709551615) (hf : formedM p = true) : PCalls Tryd.prog 29 [.v (.int .u64 p)] (.v (.string (bs (three (kindM p).toNat (offM p).toNat (genM p).toNat)))) := by
  refine pcalls_of (E := E) (fn := Tryd.f29) 41 [.tmp 2] rfl rfl rfl rfl (by decide) rfl ?_
  have hp := formed_ne hf
  have q1 := off_r p; have q2 := gen_r p; have q3 := kind_r p
  have l1 := num_len (kindM p).toNat (by omega)
  have l2 := num_len (offM p).toNat (by omega)
  have l3 := num_len (genM p).toNat (by omega)
  have w1 : IntKind.u64.wrap (kindM p) = kindM p := by rw [wr64]; omega
  have w2 : IntKind.u64.wrap (genM p) = genM p := by rw [wr64]; omega
  repeat' (first
    | (with_reducible first | refine r_seq ?_ | refine r_block ?_ | refine fork_not ?_ | refine fork_and ?_ | refine fork_or ?_ | refine chk_ok (by kernel_rfl) ?_)
    | ((with_reducible first | refine fork_dec ?_ ?_ | refine fork_eq ?_ ?_ | refine fork_ne ?_ ?_ | refine fork_intro ?_ ?_) <;> intro h <;> try (exfalso; first | omega | exact h rfl | (revert h; decide) | (cases h; done)))
    | ((with_reducible show False); omega)
    | ((first | (with_reducible first | refine r_exit ?_ | refine r_skip ?_ | refine r_cond ?_ | refine r_region ?_ | show VX _ _ _ _ _ _ _ | show vstep _ _ _ _ _ | show vskip _ _ _ | show withV _ _) | ((with_reducible show endA _ _ _ _ _ _ _); simp -implicitDefEqProofs only [endA])); simp -dsimp -implicitDefEqProofs (maxSteps := 1000000) (disch := first | omega | (simp only [LN, hf, hp, w1, w2]; omega)) only [go_sem, Int.reduceToNat, Int.reducePow, Nat.reducePow, Int.reduceAdd, Int.reduceMul, Int.reduceSub, Int.reduceNeg, Nat.reduceAdd, Nat.reduceMul, Nat.reduceSub, Nat.reduceEqDiff, Nat.reduceLT, Nat.reduceLeDiff, hf, hp, w1, w2])
    | ((first | (with_reducible refine r_ret ?_) | (with_reducible refine pick_viewG default (by first | omega | (simp only [LN, hf, hp, w1, w2]; omega)) (by first | omega | (simp only [LN, hf, hp, w1, w2]; omega)) ?_) | (with_reducible refine pick_own default (by first | omega | (simp only [LN, hf, hp, w1, w2]; omega)) ?_) | (with_reducible refine And.intro (by first | decide | omega | assumption | (simp only [LN, hf, hp, w1, w2]; omega)) ?_) | ((with_reducible apply callK_pure); (first | exact c25 p h0 | exact c24 p h0 | exact c13 p h0 | exact c23 p h0 | exact c35i (kindM p) (by omega) (by omega) | exact c35i (offM p) (by omega) (by omega) | exact c35i (genM p) (by omega) (by omega) | fail)) | ((with_reducible apply callF_lend); (first | exact c25 p h0 | exact c24 p h0 | exact c13 p h0 | exact c23 p h0 | exact c35i (kindM p) (by omega) (by omega) | exact c35i (offM p) (by omega) (by omega) | exact c35i (genM p) (by omega) (by omega) | fail); rfl) | ((with_reducible apply callF_go); (first | exact c25 p h0 | exact c24 p h0 | exact c13 p h0 | exact c23 p h0 | exact c35i (kindM p) (by omega) (by omega) | exact c35i (offM p) (by omega) (by omega) | exact c35i (genM p) (by omega) (by omega) | fail)) | ((with_reducible show pickE _ _ _); first | refine pickE_intro _ ⟨by omega, by rfl⟩ ?_ | refine pickE_intro _ (by rfl) ?_) | fail); try simp -dsimp -implicitDefEqProofs (maxSteps := 1000000) (disch := first | omega | (simp only [LN, hf, hp, w1, w2]; omega)) only [go_sem, Int.reduceToNat, Int.reducePow, Nat.reducePow, Int.reduceAdd, Int.reduceMul, Int.reduceSub, Int.reduceNeg, Nat.reduceAdd, Nat.reduceMul, Nat.reduceSub, Nat.reduceEqDiff, Nat.reduceLT, Nat.reduceLeDiff, hf, hp, w1, w2])
    | fail)
  all_goals first | rfl | omega | (simp [three]; done) | trace_state
theorem acc_of {p : Int} (h0 : 0 ≤ p) (hf : formedM p = true) : Acc (three (kindM p).toNat (offM p).toNat (genM p).toNat) (kindM p).toNat (offM p).toNat (genM p).toNat ∧ makeM ((offM p).toNat : Int) ((genM p).toNat : Int) ((kindM p).toNat : Int) = (p, 0) := by
  have q1 := off_r p; have q2 := gen_r p; have q3 := kind_r p
  have e1 : ((offM p).toNat : Int) = offM p := by omega
  have e2 : ((genM p).toNat : Int) = genM p := by omega
  have e3 : ((kindM p).toNat : Int) = kindM p := by omega
  have hm := (formed_make h0 hf).1
  have : makeM ((offM p).toNat : Int) ((genM p).toNat : Int) ((kindM p).toNat : Int) = (p, 0) := by rw [e1, e2, e3]; exact hm
  exact ⟨⟨rfl, by omega, by omega, by omega, by rw [this]⟩, this⟩
theorem hexTo_mem (p : Int) : ∀ k c, c ∈ hexTo p k → c ∈ hexS
  | 0, c, h => by unfold hexTo at h; simp at h
  | k + 1, c, h => by
    rw [hexTo_s] at h
    rcases List.mem_append.1 h with h | h
    · exact hexTo_mem p k c h
    · rw [List.mem_singleton.1 h, List.getD_eq_getElem?_getD, List.getElem?_eq_getElem (show hexI p k < hexS.length from hexI_lt p k)]
      exact List.getElem_mem _
theorem bad_no (p : Int) : (58 : UInt8) ∉ badT p := by
  intro h
  unfold badT bT at h
  rcases List.mem_cons.1 h with h | h
  · exact absurd h (by decide)
  · rcases List.mem_cons.1 h with h | h
    · exact absurd h (by decide)
    · exact absurd (hexTo_mem p 16 _ h) (by decide)
theorem bad_len (p : Int) : (badT p).length = 18 := bT_len p 16
theorem bad_acc (p : Int) : ∀ k o g, ¬ Acc (badT p) k o g := fun k o g h => by
  apply bad_no p
  rw [h.hs]
  unfold three
  simp
theorem bad_ne (p : Int) : ¬ badT p = [45] := fun h => by have := bad_len p; rw [h] at this; simp at this
attribute [local irreducible] three badT
set_option maxRecDepth 100000 in
set_option maxHeartbeats 4000000 in
theorem c9 (p : Int) (h0 : 0 ≤ p) (h1 : p ≤ 18446744073709551615) : PCalls Tryd.prog 9 [.v (.int .u64 p)] (.v (.bool true)) := by
  refine pcalls_of (E := E) (fn := Tryd.f9) 42 [.tmp 2] rfl rfl rfl rfl (by decide) rfl ?_
  by_cases hp : p = 0
  · subst hp
    repeat' (first
      | (with_reducible first | refine r_seq ?_ | refine r_block ?_ | refine fork_not ?_ | refine fork_and ?_ | refine fork_or ?_ | refine chk_ok (by kernel_rfl) ?_)
      | ((with_reducible first | refine fork_dec ?_ ?_ | refine fork_eq ?_ ?_ | refine fork_ne ?_ ?_ | refine fork_intro ?_ ?_) <;> intro h <;> try (exfalso; first | omega | exact h rfl | (revert h; decide) | (cases h; done)))
      | ((with_reducible show False); omega)
      | ((first | (with_reducible first | refine r_exit ?_ | refine r_skip ?_ | refine r_cond ?_ | refine r_region ?_ | show VX _ _ _ _ _ _ _ | show vstep _ _ _ _ _ | show vskip _ _ _ | show withV _ _) | ((with_reducible show endA _ _ _ _ _ _ _); simp -implicitDefEqProofs only [endA])); simp -dsimp -implicitDefEqProofs (maxSteps := 1000000) (disch := first | omega | (simp only [LN]; omega)) only [go_sem, Int.reduceToNat, Int.reducePow, Nat.reducePow, Int.reduceAdd, Int.reduceMul, Int.reduceSub, Int.reduceNeg, Nat.reduceAdd, Nat.reduceMul, Nat.reduceSub, Nat.reduceEqDiff, Nat.reduceLT, Nat.reduceLeDiff])
      | ((first | (with_reducible refine r_ret ?_) | (with_reducible refine pick_viewG default (by first | omega | (simp only [LN]; omega)) (by first | omega | (simp only [LN]; omega)) ?_) | (with_reducible refine pick_own default (by first | omega | (simp only [LN]; omega)) ?_) | (with_reducible refine And.intro (by first | decide | omega | assumption | (simp only [LN]; omega)) ?_) | ((with_reducible apply callK_pure); (first | exact c12 | exact c27z | exact c28n | exact c29z | fail)) | ((with_reducible apply callF_lend); (first | exact c12 | exact c27z | exact c28n | exact c29z | fail); rfl) | ((with_reducible apply callF_go); (first | exact c12 | exact c27z | exact c28n | exact c29z | fail)) | ((with_reducible show pickE _ _ _); first | refine pickE_intro _ ⟨by omega, by rfl⟩ ?_ | refine pickE_intro _ (by rfl) ?_) | fail); try simp -dsimp -implicitDefEqProofs (maxSteps := 1000000) (disch := first | omega | (simp only [LN]; omega)) only [go_sem, Int.reduceToNat, Int.reducePow, Nat.reducePow, Int.reduceAdd, Int.reduceMul, Int.reduceSub, Int.reduceNeg, Nat.reduceAdd, Nat.reduceMul, Nat.reduceSub, Nat.reduceEqDiff, Nat.reduceLT, Nat.reduceLeDiff])
      | fail)
    all_goals first | rfl | omega | (simp at *; done) | trace_state
  · cases hf : formedM p with
    | true =>
      obtain ⟨ha, hm⟩ := acc_of h0 hf
      have q1 := off_r p; have q2 := gen_r p; have q3 := kind_r p
      have hl := three_len (k := (kindM p).toNat) (o := (offM p).toNat) (g := (genM p).toNat) (by omega) (by omega) (by omega)
      have ca := c28a _ (by omega) _ _ _ ha
      rw [hm] at ca
      have cf := c25 p h0
      rw [hf] at cf
      repeat' (first
        | (with_reducible first | refine r_seq ?_ | refine r_block ?_ | refine fork_not ?_ | refine fork_and ?_ | refine fork_or ?_ | refine chk_ok (by kernel_rfl) ?_)
        | ((with_reducible first | refine fork_dec ?_ ?_ | refine fork_eq ?_ ?_ | refine fork_ne ?_ ?_ | refine fork_intro ?_ ?_) <;> intro h <;> try (exfalso; first | omega | exact h rfl | (revert h; decide) | (cases h; done)))
        | ((with_reducible show False); omega)
        | ((first | (with_reducible first | refine r_exit ?_ | refine r_skip ?_ | refine r_cond ?_ | refine r_region ?_ | show VX _ _ _ _ _ _ _ | show vstep _ _ _ _ _ | show vskip _ _ _ | show withV _ _) | ((with_reducible show endA _ _ _ _ _ _ _); simp -implicitDefEqProofs only [endA])); simp -dsimp -implicitDefEqProofs (maxSteps := 1000000) (disch := first | omega | (simp only [LN, hp]; omega)) only [go_sem, Int.reduceToNat, Int.reducePow, Nat.reducePow, Int.reduceAdd, Int.reduceMul, Int.reduceSub, Int.reduceNeg, Nat.reduceAdd, Nat.reduceMul, Nat.reduceSub, Nat.reduceEqDiff, Nat.reduceLT, Nat.reduceLeDiff, hp])
        | ((first | (with_reducible refine r_ret ?_) | (with_reducible refine pick_viewG default (by first | omega | (simp only [LN, hp]; omega)) (by first | omega | (simp only [LN, hp]; omega)) ?_) | (with_reducible refine pick_own default (by first | omega | (simp only [LN, hp]; omega)) ?_) | (with_reducible refine And.intro (by first | decide | omega | assumption | (simp only [LN, hp]; omega)) ?_) | ((with_reducible apply callK_pure); (first | exact c12 | exact c27g p h0 hf | exact ca | exact c29g p h0 h1 hf | exact cf | fail)) | ((with_reducible apply callF_lend); (first | exact c12 | exact c27g p h0 hf | exact ca | exact c29g p h0 h1 hf | exact cf | fail); rfl) | ((with_reducible apply callF_go); (first | exact c12 | exact c27g p h0 hf | exact ca | exact c29g p h0 h1 hf | exact cf | fail)) | ((with_reducible show pickE _ _ _); first | refine pickE_intro _ ⟨by omega, by rfl⟩ ?_ | refine pickE_intro _ (by rfl) ?_) | fail); try simp -dsimp -implicitDefEqProofs (maxSteps := 1000000) (disch := first | omega | (simp only [LN, hp]; omega)) only [go_sem, Int.reduceToNat, Int.reducePow, Nat.reducePow, Int.reduceAdd, Int.reduceMul, Int.reduceSub, Int.reduceNeg, Nat.reduceAdd, Nat.reduceMul, Nat.reduceSub, Nat.reduceEqDiff, Nat.reduceLT, Nat.reduceLeDiff, hp])
        | fail)
      all_goals first | rfl | omega | (simp at *; done) | trace_state
    | false =>
      have hl := bad_len p
      have cf := c25 p h0
      rw [hf] at cf
      repeat' (first
        | (with_reducible first | refine r_seq ?_ | refine r_block ?_ | refine fork_not ?_ | refine fork_and ?_ | refine fork_or ?_ | refine chk_ok (by kernel_rfl) ?_)
        | ((with_reducible first | refine fork_dec ?_ ?_ | refine fork_eq ?_ ?_ | refine fork_ne ?_ ?_ | refine fork_intro ?_ ?_) <;> intro h <;> try (exfalso; first | omega | exact h rfl | (revert h; decide) | (cases h; done)))
        | ((with_reducible show False); omega)
        | ((first | (with_reducible first | refine r_exit ?_ | refine r_skip ?_ | refine r_cond ?_ | refine r_region ?_ | show VX _ _ _ _ _ _ _ | show vstep _ _ _ _ _ | show vskip _ _ _ | show withV _ _) | ((with_reducible show endA _ _ _ _ _ _ _); simp -implicitDefEqProofs only [endA])); simp -dsimp -implicitDefEqProofs (maxSteps := 1000000) (disch := first | omega | (simp only [LN, hp]; omega)) only [go_sem, Int.reduceToNat, Int.reducePow, Nat.reducePow, Int.reduceAdd, Int.reduceMul, Int.reduceSub, Int.reduceNeg, Nat.reduceAdd, Nat.reduceMul, Nat.reduceSub, Nat.reduceEqDiff, Nat.reduceLT, Nat.reduceLeDiff, hp])
        | ((first | (with_reducible refine r_ret ?_) | (with_reducible refine pick_viewG default (by first | omega | (simp only [LN, hp]; omega)) (by first | omega | (simp only [LN, hp]; omega)) ?_) | (with_reducible refine pick_own default (by first | omega | (simp only [LN, hp]; omega)) ?_) | (with_reducible refine And.intro (by first | decide | omega | assumption | (simp only [LN, hp]; omega)) ?_) | ((with_reducible apply callK_pure); (first | exact c12 | exact c27b p h0 h1 hp hf | exact c28r (badT p) (by omega) (bad_ne p) (bad_acc p) | exact c29b p h0 h1 hp hf | exact cf | fail)) | ((with_reducible apply callF_lend); (first | exact c12 | exact c27b p h0 h1 hp hf | exact c28r (badT p) (by omega) (bad_ne p) (bad_acc p) | exact c29b p h0 h1 hp hf | exact cf | fail); rfl) | ((with_reducible apply callF_go); (first | exact c12 | exact c27b p h0 h1 hp hf | exact c28r (badT p) (by omega) (bad_ne p) (bad_acc p) | exact c29b p h0 h1 hp hf | exact cf | fail)) | ((with_reducible show pickE _ _ _); first | refine pickE_intro _ ⟨by omega, by rfl⟩ ?_ | refine pickE_intro _ (by rfl) ?_) | fail); try simp -dsimp -implicitDefEqProofs (maxSteps := 1000000) (disch := first | omega | (simp only [LN, hp]; omega)) only [go_sem, Int.reduceToNat, Int.reducePow, Nat.reducePow, Int.reduceAdd, Int.reduceMul, Int.reduceSub, Int.reduceNeg, Nat.reduceAdd, Nat.reduceMul, Nat.reduceSub, Nat.reduceEqDiff, Nat.reduceLT, Nat.reduceLeDiff, hp])
        | fail)
      all_goals first | rfl | omega | (simp at *; done) | trace_state
set_option maxRecDepth 100000 in
set_option maxHeartbeats 4000000 in
theorem c10 (s : List UInt8) : PCalls Tryd.prog 10 [.v (.string (bs s))] (.v (.bool true)) := by
  refine pcalls_of (E := E) (fn := Tryd.f10) 42 [.tmp 2] rfl rfl rfl rfl (by decide) rfl ?_
  by_cases hl : 200 < s.length
  · repeat' (first
      | (with_reducible first | refine r_seq ?_ | refine r_block ?_ | refine fork_not ?_ | refine fork_and ?_ | refine fork_or ?_ | refine chk_ok (by kernel_rfl) ?_)
      | ((with_reducible first | refine fork_dec ?_ ?_ | refine fork_eq ?_ ?_ | refine fork_ne ?_ ?_ | refine fork_intro ?_ ?_) <;> intro h <;> try (exfalso; first | omega | exact h rfl | (revert h; decide) | (cases h; done)))
      | ((with_reducible show False); omega)
      | ((first | (with_reducible first | refine r_exit ?_ | refine r_skip ?_ | refine r_cond ?_ | refine r_region ?_ | show VX _ _ _ _ _ _ _ | show vstep _ _ _ _ _ | show vskip _ _ _ | show withV _ _) | ((with_reducible show endA _ _ _ _ _ _ _); simp -implicitDefEqProofs only [endA])); simp -dsimp -implicitDefEqProofs (maxSteps := 1000000) (disch := first | omega | (simp only [LN]; omega)) only [go_sem, Int.reduceToNat, Int.reducePow, Nat.reducePow, Int.reduceAdd, Int.reduceMul, Int.reduceSub, Int.reduceNeg, Nat.reduceAdd, Nat.reduceMul, Nat.reduceSub, Nat.reduceEqDiff, Nat.reduceLT, Nat.reduceLeDiff])
      | ((first | (with_reducible refine r_ret ?_) | (with_reducible refine pick_viewG default (by first | omega | (simp only [LN]; omega)) (by first | omega | (simp only [LN]; omega)) ?_) | (with_reducible refine pick_own default (by first | omega | (simp only [LN]; omega)) ?_) | (with_reducible refine And.intro (by first | decide | omega | assumption | (simp only [LN]; omega)) ?_) | ((with_reducible apply callK_pure); (exact c12)) | ((with_reducible apply callF_lend); (exact c12); rfl) | ((with_reducible apply callF_go); (exact c12)) | ((with_reducible show pickE _ _ _); first | refine pickE_intro _ ⟨by omega, by rfl⟩ ?_ | refine pickE_intro _ (by rfl) ?_) | fail); try simp -dsimp -implicitDefEqProofs (maxSteps := 1000000) (disch := first | omega | (simp only [LN]; omega)) only [go_sem, Int.reduceToNat, Int.reducePow, Nat.reducePow, Int.reduceAdd, Int.reduceMul, Int.reduceSub, Int.reduceNeg, Nat.reduceAdd, Nat.reduceMul, Nat.reduceSub, Nat.reduceEqDiff, Nat.reduceLT, Nat.reduceLeDiff])
      | fail)
    all_goals first | rfl | omega | (simp at *; done) | trace_state
  · by_cases hn : s = [45]
    · subst hn
      repeat' (first
        | (with_reducible first | refine r_seq ?_ | refine r_block ?_ | refine fork_not ?_ | refine fork_and ?_ | refine fork_or ?_ | refine chk_ok (by kernel_rfl) ?_)
        | ((with_reducible first | refine fork_dec ?_ ?_ | refine fork_eq ?_ ?_ | refine fork_ne ?_ ?_ | refine fork_intro ?_ ?_) <;> intro h <;> try (exfalso; first | omega | exact h rfl | (revert h; decide) | (cases h; done)))
        | ((with_reducible show False); omega)
        | ((first | (with_reducible first | refine r_exit ?_ | refine r_skip ?_ | refine r_cond ?_ | refine r_region ?_ | show VX _ _ _ _ _ _ _ | show vstep _ _ _ _ _ | show vskip _ _ _ | show withV _ _) | ((with_reducible show endA _ _ _ _ _ _ _); simp -implicitDefEqProofs only [endA])); simp -dsimp -implicitDefEqProofs (maxSteps := 1000000) (disch := first | omega | (simp only [LN]; omega)) only [go_sem, Int.reduceToNat, Int.reducePow, Nat.reducePow, Int.reduceAdd, Int.reduceMul, Int.reduceSub, Int.reduceNeg, Nat.reduceAdd, Nat.reduceMul, Nat.reduceSub, Nat.reduceEqDiff, Nat.reduceLT, Nat.reduceLeDiff])
        | ((first | (with_reducible refine r_ret ?_) | (with_reducible refine pick_viewG default (by first | omega | (simp only [LN]; omega)) (by first | omega | (simp only [LN]; omega)) ?_) | (with_reducible refine pick_own default (by first | omega | (simp only [LN]; omega)) ?_) | (with_reducible refine And.intro (by first | decide | omega | assumption | (simp only [LN]; omega)) ?_) | ((with_reducible apply callK_pure); (first | exact c12 | exact c28n | exact c30n | exact c27z | fail)) | ((with_reducible apply callF_lend); (first | exact c12 | exact c28n | exact c30n | exact c27z | fail); rfl) | ((with_reducible apply callF_go); (first | exact c12 | exact c28n | exact c30n | exact c27z | fail)) | ((with_reducible show pickE _ _ _); first | refine pickE_intro _ ⟨by omega, by rfl⟩ ?_ | refine pickE_intro _ (by rfl) ?_) | fail); try simp -dsimp -implicitDefEqProofs (maxSteps := 1000000) (disch := first | omega | (simp only [LN]; omega)) only [go_sem, Int.reduceToNat, Int.reducePow, Nat.reducePow, Int.reduceAdd, Int.reduceMul, Int.reduceSub, Int.reduceNeg, Nat.reduceAdd, Nat.reduceMul, Nat.reduceSub, Nat.reduceEqDiff, Nat.reduceLT, Nat.reduceLeDiff])
        | fail)
      all_goals first | rfl | omega | (simp at *; done) | trace_state
    · by_cases ha : ∃ k o g, Acc s k o g
      · obtain ⟨k, o, g, ha⟩ := ha
        have hk := ha.hk
        have ho := ha.ho
        have hg := ha.hg
        obtain ⟨q, e, hq, _, _, _⟩ := make_ok (off := o) (gen := g) (kind := k) (by omega) (by omega) (by omega) ha.hm
        have c1 := c28a s (by omega) k o g ha
        have c2 := c30a s (by omega) k o g ha
        rw [e] at c1 c2
        have ct := c27g q hq.r.1 hq.formed
        rw [hq.kind, hq.off, hq.gen, Int.toNat_natCast, Int.toNat_natCast, Int.toNat_natCast, ← ha.hs] at ct
        repeat' (first
          | (with_reducible first | refine r_seq ?_ | refine r_block ?_ | refine fork_not ?_ | refine fork_and ?_ | refine fork_or ?_ | refine chk_ok (by kernel_rfl) ?_)
          | ((with_reducible first | refine fork_dec ?_ ?_ | refine fork_eq ?_ ?_ | refine fork_ne ?_ ?_ | refine fork_intro ?_ ?_) <;> intro h <;> try (exfalso; first | omega | exact h rfl | (revert h; decide) | (cases h; done)))
          | ((with_reducible show False); omega)
          | ((first | (with_reducible first | refine r_exit ?_ | refine r_skip ?_ | refine r_cond ?_ | refine r_region ?_ | show VX _ _ _ _ _ _ _ | show vstep _ _ _ _ _ | show vskip _ _ _ | show withV _ _) | ((with_reducible show endA _ _ _ _ _ _ _); simp -implicitDefEqProofs only [endA])); simp -dsimp -implicitDefEqProofs (maxSteps := 1000000) (disch := first | omega | (simp only [LN]; omega)) only [go_sem, Int.reduceToNat, Int.reducePow, Nat.reducePow, Int.reduceAdd, Int.reduceMul, Int.reduceSub, Int.reduceNeg, Nat.reduceAdd, Nat.reduceMul, Nat.reduceSub, Nat.reduceEqDiff, Nat.reduceLT, Nat.reduceLeDiff])
          | ((first | (with_reducible refine r_ret ?_) | (with_reducible refine pick_viewG default (by first | omega | (simp only [LN]; omega)) (by first | omega | (simp only [LN]; omega)) ?_) | (with_reducible refine pick_own default (by first | omega | (simp only [LN]; omega)) ?_) | (with_reducible refine And.intro (by first | decide | omega | assumption | (simp only [LN]; omega)) ?_) | ((with_reducible apply callK_pure); (first | exact c12 | exact c1 | exact c2 | exact ct | fail)) | ((with_reducible apply callF_lend); (first | exact c12 | exact c1 | exact c2 | exact ct | fail); rfl) | ((with_reducible apply callF_go); (first | exact c12 | exact c1 | exact c2 | exact ct | fail)) | ((with_reducible show pickE _ _ _); first | refine pickE_intro _ ⟨by omega, by rfl⟩ ?_ | refine pickE_intro _ (by rfl) ?_) | fail); try simp -dsimp -implicitDefEqProofs (maxSteps := 1000000) (disch := first | omega | (simp only [LN]; omega)) only [go_sem, Int.reduceToNat, Int.reducePow, Nat.reducePow, Int.reduceAdd, Int.reduceMul, Int.reduceSub, Int.reduceNeg, Nat.reduceAdd, Nat.reduceMul, Nat.reduceSub, Nat.reduceEqDiff, Nat.reduceLT, Nat.reduceLeDiff])
          | fail)
        all_goals first | rfl | omega | (simp at *; done) | trace_state
      · have ha2 : ∀ k o g, ¬ Acc s k o g := fun k o g h => ha ⟨k, o, g, h⟩
        repeat' (first
          | (with_reducible first | refine r_seq ?_ | refine r_block ?_ | refine fork_not ?_ | refine fork_and ?_ | refine fork_or ?_ | refine chk_ok (by kernel_rfl) ?_)
          | ((with_reducible first | refine fork_dec ?_ ?_ | refine fork_eq ?_ ?_ | refine fork_ne ?_ ?_ | refine fork_intro ?_ ?_) <;> intro h <;> try (exfalso; first | omega | exact h rfl | (revert h; decide) | (cases h; done)))
          | ((with_reducible show False); omega)
          | ((first | (with_reducible first | refine r_exit ?_ | refine r_skip ?_ | refine r_cond ?_ | refine r_region ?_ | show VX _ _ _ _ _ _ _ | show vstep _ _ _ _ _ | show vskip _ _ _ | show withV _ _) | ((with_reducible show endA _ _ _ _ _ _ _); simp -implicitDefEqProofs only [endA])); simp -dsimp -implicitDefEqProofs (maxSteps := 1000000) (disch := first | omega | (simp only [LN]; omega)) only [go_sem, Int.reduceToNat, Int.reducePow, Nat.reducePow, Int.reduceAdd, Int.reduceMul, Int.reduceSub, Int.reduceNeg, Nat.reduceAdd, Nat.reduceMul, Nat.reduceSub, Nat.reduceEqDiff, Nat.reduceLT, Nat.reduceLeDiff])
          | ((first | (with_reducible refine r_ret ?_) | (with_reducible refine pick_viewG default (by first | omega | (simp only [LN]; omega)) (by first | omega | (simp only [LN]; omega)) ?_) | (with_reducible refine pick_own default (by first | omega | (simp only [LN]; omega)) ?_) | (with_reducible refine And.intro (by first | decide | omega | assumption | (simp only [LN]; omega)) ?_) | ((with_reducible apply callK_pure); (first | exact c12 | exact c28r s (by omega) hn ha2 | exact c30r s (by omega) hn ha2 | fail)) | ((with_reducible apply callF_lend); (first | exact c12 | exact c28r s (by omega) hn ha2 | exact c30r s (by omega) hn ha2 | fail); rfl) | ((with_reducible apply callF_go); (first | exact c12 | exact c28r s (by omega) hn ha2 | exact c30r s (by omega) hn ha2 | fail)) | ((with_reducible show pickE _ _ _); first | refine pickE_intro _ ⟨by omega, by rfl⟩ ?_ | refine pickE_intro _ (by rfl) ?_) | fail); try simp -dsimp -implicitDefEqProofs (maxSteps := 1000000) (disch := first | omega | (simp only [LN]; omega)) only [go_sem, Int.reduceToNat, Int.reducePow, Nat.reducePow, Int.reduceAdd, Int.reduceMul, Int.reduceSub, Int.reduceNeg, Nat.reduceAdd, Nat.reduceMul, Nat.reduceSub, Nat.reduceEqDiff, Nat.reduceLT, Nat.reduceLeDiff])
          | fail)
        all_goals first | rfl | omega | (simp at *; done) | trace_state
end Go.Proofs.YtkmobahedfdikaaDoor
