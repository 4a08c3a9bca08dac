/- Contracts of functions of this program, and the plain facts that they rest on. No conditions. -/
import Derived.Test.YtlkffmmgcoiniaaDoorD9
set_option linter.unusedSimpArgs false
set_option linter.unusedVariables false
namespace Go.Proofs.YtlkffmmgcoiniaaDoor
open Go Go.Ab
attribute [local irreducible] callK callF loopQ vstep vskip pickE hideP
set_option maxRecDepth 100000
attribute [local go_sem] eF rF eS eP eX rX eQ eL
structure Good (x : X) : Prop where
  nm : nameM x.nm = true
  arg : ¬ (x.ver < 1 ∨ 65535 < x.ver ∨ x.fs.length = 0)
  err : ∀ k, k < x.fs.length → errF x.fs k = 0
  cnt : CntOk x.fs
  fit : (posTo x.fs x.fs.length).1 < 60
  lay : layM x = ⟨x.nm, x.ver, slotsTo x.fs x.fs.length, (posTo x.fs x.fs.length).1 + 1⟩
theorem good_of {x : X} (h : newE x = 0) : Good x := by
  have h0 : nameM x.nm = true := by
    cases hn : nameM x.nm with
    | true => rfl
    | false => rw [newE_nm hn] at h; simp at h
  have h1 : ¬ (x.ver < 1 ∨ 65535 < x.ver ∨ x.fs.length = 0) := fun h1 => by rw [newE_arg h0 h1] at h; simp at h
  have h2 : errs x.fs x.fs.length = 0 := by
    by_cases h2 : errs x.fs x.fs.length = 0
    · exact h2
    · rw [newE_err h0 h1 h2] at h; exact absurd h h2
  have h3 := errs_zero.1 h2
  have h4 := newE_fit h0 h1 h2
  have hb : (stN x.fs x.fs.length).b = true := by
    rw [h] at h4
    by_cases hb : (stN x.fs x.fs.length).b = true
    · exact hb
    · rw [if_neg hb] at h4; simp at h4
  obtain ⟨f1, f2⟩ := stN_fits (cnt_of h3)
  obtain ⟨f3, f4⟩ := f2 hb
  rw [hb] at f1
  have f1 := f1.symm
  rw [Bool.and_eq_true, Bool.not_eq_true'] at f1
  refine ⟨h0, h1, h3, fun k hk => ⟨cnt_of h3 k hk, greatB_f f1.1 k hk⟩, of_decide_eq_true f1.2, ?_⟩
  rw [lay_ok h, f3, f4]
theorem slotsTo_len (fs : List F) : ∀ n, (slotsTo fs n).length = n
  | 0 => rfl
  | n + 1 => by simp [slotsTo, slotsTo_len fs n]
theorem slotsTo_get (fs : List F) : ∀ {n i : Nat}, i < n → (slotsTo fs n).getD i default = slotAt fs i
  | 0, _, h => absurd h (by omega)
  | n + 1, i, h => by
    rw [slotsTo, List.getD_eq_getElem?_getD]
    rcases Nat.lt_or_ge i n with h1 | h1
    · rw [List.getElem?_append_left (by rw [slotsTo_len]; exact h1), ← List.getD_eq_getElem?_getD, slotsTo_get fs h1]
    · obtain rfl : i = n := by omega
      rw [List.getElem?_append_right (by rw [slotsTo_len]; exact Nat.le_refl _), slotsTo_len]
      simp
theorem newE_ne (x : X) (h : ¬ newE x = 0) : layM x = ⟨[], 0, [], 0⟩ := lay_bad h
/-- What the reading of a statement's argument says. -/
structure Rd (x : X) : Prop where
  len : x.fs.length ≤ 140737488355328
  ver : -9223372036854775808 ≤ x.ver ∧ x.ver ≤ 9223372036854775807
  ty : ∀ i, i < x.fs.length → 0 ≤ (x.fs.getD i default).ty ∧ (x.fs.getD i default).ty < 256
  cnt : ∀ i, i < x.fs.length → -9223372036854775808 ≤ (x.fs.getD i default).cnt ∧ (x.fs.getD i default).cnt ≤ 9223372036854775807
set_option maxRecDepth 100000 in
set_option maxHeartbeats 4000000 in
theorem c4 (x : X) (hr : Rd x) : PCalls Tryd.prog 4 [eX x] (.v (.bool true)) := by
  refine pcalls_of (E := E) (fn := Tryd.f4) 79 [.tmp 2] rfl rfl rfl rfl (by decide) rfl ?_
  have hlen := hr.len
  by_cases hg : greatM x = true
  · repeat' (first
      | (with_reducible first | refine r_seq ?_ | refine r_block ?_ | refine fork_not ?_ | refine fork_and ?_ | refine fork_or ?_ | refine chk_ok (by kernel_rfl) ?_)
      | ((with_reducible first | refine fork_dec ?_ ?_ | refine fork_eq ?_ ?_ | refine fork_ne ?_ ?_ | refine fork_intro ?_ ?_) <;> intro h <;> try (exfalso; first | omega | exact h rfl | (revert h; decide) | (cases h; done)))
      | ((with_reducible show False); omega)
      | ((first | (with_reducible first | refine r_exit ?_ | refine r_skip ?_ | refine r_cond ?_ | refine r_region ?_ | show VX _ _ _ _ _ _ _ | show vstep _ _ _ _ _ | show vskip _ _ _ | show withV _ _) | ((with_reducible show endA _ _ _ _ _ _ _); simp -implicitDefEqProofs only [endA])); simp -dsimp -implicitDefEqProofs (maxSteps := 1000000) (disch := first | omega | (simp only [LN, hg]; omega)) only [go_sem, Int.reduceToNat, Int.reducePow, Nat.reducePow, Int.reduceAdd, Int.reduceMul, Int.reduceSub, Int.reduceNeg, Nat.reduceAdd, Nat.reduceMul, Nat.reduceSub, Nat.reduceEqDiff, Nat.reduceLT, Nat.reduceLeDiff, hg])
      | ((first | (with_reducible refine r_ret ?_) | (with_reducible refine pick_viewG default (by first | omega | (simp only [LN, hg]; omega)) (by first | omega | (simp only [LN, hg]; omega)) ?_) | (with_reducible refine pick_own default (by first | omega | (simp only [LN, hg]; omega)) ?_) | (with_reducible refine And.intro (by first | decide | omega | assumption | (simp only [LN, hg]; omega)) ?_) | ((with_reducible apply callK_pure); (first | exact c12 | exact c13 x hlen | fail)) | ((with_reducible apply callF_lend); (first | exact c12 | exact c13 x hlen | fail); rfl) | ((with_reducible apply callF_go); (first | exact c12 | exact c13 x hlen | fail)) | ((with_reducible show pickE _ _ _); first | refine pickE_intro _ ⟨by omega, by rfl⟩ ?_ | refine pickE_intro _ (by rfl) ?_) | fail); try simp -dsimp -implicitDefEqProofs (maxSteps := 1000000) (disch := first | omega | (simp only [LN, hg]; omega)) only [go_sem, Int.reduceToNat, Int.reducePow, Nat.reducePow, Int.reduceAdd, Int.reduceMul, Int.reduceSub, Int.reduceNeg, Nat.reduceAdd, Nat.reduceMul, Nat.reduceSub, Nat.reduceEqDiff, Nat.reduceLT, Nat.reduceLeDiff, hg])
      | fail)
    all_goals first | rfl | omega | (simp; done) | trace_state
  · have hg : greatM x = false := by simpa using hg
    obtain ⟨g1, g2, g3⟩ := greatM_f hg
    by_cases he : newE x = 0
    · have G := good_of he
      have cw := c23 x g1 (by have := G.arg; omega) G.cnt
      have hlay := G.lay
      have hfit := G.fit
      have hsl := slotsTo_len x.fs x.fs.length
      repeat' (first
        | (with_reducible first | refine r_seq ?_ | refine r_block ?_ | refine fork_not ?_ | refine fork_and ?_ | refine fork_or ?_ | refine chk_ok (by kernel_rfl) ?_)
        | ((with_reducible first | refine fork_dec ?_ ?_ | refine fork_eq ?_ ?_ | refine fork_ne ?_ ?_ | refine fork_intro ?_ ?_) <;> intro h <;> try (exfalso; first | omega | exact h rfl | (revert h; decide) | (cases h; done)))
        | ((with_reducible show False); omega)
        | ((first | (with_reducible first | refine r_exit ?_ | refine r_skip ?_ | refine r_cond ?_ | refine r_region ?_ | show VX _ _ _ _ _ _ _ | show vstep _ _ _ _ _ | show vskip _ _ _ | show withV _ _) | ((with_reducible show endA _ _ _ _ _ _ _); simp -implicitDefEqProofs only [endA])); simp -dsimp -implicitDefEqProofs (maxSteps := 1000000) (disch := first | omega | (simp only [LN, hg, he, hlay, hsl]; omega)) only [go_sem, Int.reduceToNat, Int.reducePow, Nat.reducePow, Int.reduceAdd, Int.reduceMul, Int.reduceSub, Int.reduceNeg, Nat.reduceAdd, Nat.reduceMul, Nat.reduceSub, Nat.reduceEqDiff, Nat.reduceLT, Nat.reduceLeDiff, hg, he, hlay, hsl])
        | ((first | (with_reducible refine r_ret ?_) | (with_reducible refine pick_viewG default (by first | omega | (simp only [LN, hg, he, hlay, hsl]; omega)) (by first | omega | (simp only [LN, hg, he, hlay, hsl]; omega)) ?_) | (with_reducible refine pick_own default (by first | omega | (simp only [LN, hg, he, hlay, hsl]; omega)) ?_) | (with_reducible refine And.intro (by first | decide | omega | assumption | (simp only [LN, hg, he, hlay, hsl]; omega)) ?_) | ((with_reducible apply callK_pure); (first | exact c12 | exact c13 x hlen | exact c14 x (by omega) hr.ty | exact c16 x (by omega) hr.ty | exact c15 x g1 g2 g3 | exact cw | exact c17 ⟨x.nm, x.ver, slotsTo x.fs x.fs.length, (posTo x.fs x.fs.length).1 + 1⟩ (by simp only []; omega) | exact c20 ⟨x.nm, x.ver, slotsTo x.fs x.fs.length, (posTo x.fs x.fs.length).1 + 1⟩ | exact c21 ⟨x.nm, x.ver, slotsTo x.fs x.fs.length, (posTo x.fs x.fs.length).1 + 1⟩ | exact c22 ⟨x.nm, x.ver, slotsTo x.fs x.fs.length, (posTo x.fs x.fs.length).1 + 1⟩ | fail)) | ((with_reducible apply callF_lend); (first | exact c12 | exact c13 x hlen | exact c14 x (by omega) hr.ty | exact c16 x (by omega) hr.ty | exact c15 x g1 g2 g3 | exact cw | exact c17 ⟨x.nm, x.ver, slotsTo x.fs x.fs.length, (posTo x.fs x.fs.length).1 + 1⟩ (by simp only []; omega) | exact c20 ⟨x.nm, x.ver, slotsTo x.fs x.fs.length, (posTo x.fs x.fs.length).1 + 1⟩ | exact c21 ⟨x.nm, x.ver, slotsTo x.fs x.fs.length, (posTo x.fs x.fs.length).1 + 1⟩ | exact c22 ⟨x.nm, x.ver, slotsTo x.fs x.fs.length, (posTo x.fs x.fs.length).1 + 1⟩ | fail); rfl) | ((with_reducible apply callF_go); (first | exact c12 | exact c13 x hlen | exact c14 x (by omega) hr.ty | exact c16 x (by omega) hr.ty | exact c15 x g1 g2 g3 | exact cw | exact c17 ⟨x.nm, x.ver, slotsTo x.fs x.fs.length, (posTo x.fs x.fs.length).1 + 1⟩ (by simp only []; omega) | exact c20 ⟨x.nm, x.ver, slotsTo x.fs x.fs.length, (posTo x.fs x.fs.length).1 + 1⟩ | exact c21 ⟨x.nm, x.ver, slotsTo x.fs x.fs.length, (posTo x.fs x.fs.length).1 + 1⟩ | exact c22 ⟨x.nm, x.ver, slotsTo x.fs x.fs.length, (posTo x.fs x.fs.length).1 + 1⟩ | fail)) | ((with_reducible show pickE _ _ _); first | refine pickE_intro _ ⟨by omega, by rfl⟩ ?_ | refine pickE_intro _ (by rfl) ?_) | fail); try simp -dsimp -implicitDefEqProofs (maxSteps := 1000000) (disch := first | omega | (simp only [LN, hg, he, hlay, hsl]; omega)) only [go_sem, Int.reduceToNat, Int.reducePow, Nat.reducePow, Int.reduceAdd, Int.reduceMul, Int.reduceSub, Int.reduceNeg, Nat.reduceAdd, Nat.reduceMul, Nat.reduceSub, Nat.reduceEqDiff, Nat.reduceLT, Nat.reduceLeDiff, hg, he, hlay, hsl])
        | fail)
      all_goals first | rfl | omega | (simp; done) | trace_state
    · have hlay := lay_bad he
      repeat' (first
        | (with_reducible first | refine r_seq ?_ | refine r_block ?_ | refine fork_not ?_ | refine fork_and ?_ | refine fork_or ?_ | refine chk_ok (by kernel_rfl) ?_)
        | ((with_reducible first | refine fork_dec ?_ ?_ | refine fork_eq ?_ ?_ | refine fork_ne ?_ ?_ | refine fork_intro ?_ ?_) <;> intro h <;> try (exfalso; first | omega | exact h rfl | (revert h; decide) | (cases h; done)))
        | ((with_reducible show False); omega)
        | ((first | (with_reducible first | refine r_exit ?_ | refine r_skip ?_ | refine r_cond ?_ | refine r_region ?_ | show VX _ _ _ _ _ _ _ | show vstep _ _ _ _ _ | show vskip _ _ _ | show withV _ _) | ((with_reducible show endA _ _ _ _ _ _ _); simp -implicitDefEqProofs only [endA])); simp -dsimp -implicitDefEqProofs (maxSteps := 1000000) (disch := first | omega | (simp only [LN, hg, hlay]; omega)) only [go_sem, Int.reduceToNat, Int.reducePow, Nat.reducePow, Int.reduceAdd, Int.reduceMul, Int.reduceSub, Int.reduceNeg, Nat.reduceAdd, Nat.reduceMul, Nat.reduceSub, Nat.reduceEqDiff, Nat.reduceLT, Nat.reduceLeDiff, hg, hlay])
        | ((first | (with_reducible refine r_ret ?_) | (with_reducible refine pick_viewG default (by first | omega | (simp only [LN, hg, hlay]; omega)) (by first | omega | (simp only [LN, hg, hlay]; omega)) ?_) | (with_reducible refine pick_own default (by first | omega | (simp only [LN, hg, hlay]; omega)) ?_) | (with_reducible refine And.intro (by first | decide | omega | assumption | (simp only [LN, hg, hlay]; omega)) ?_) | ((with_reducible apply callK_pure); (first | exact c12 | exact c13 x hlen | exact c14 x (by omega) hr.ty | exact c16 x (by omega) hr.ty | exact c15 x g1 g2 g3 | exact c17 ⟨[], 0, [], 0⟩ (by simp) | exact c20 ⟨[], 0, [], 0⟩ | exact c21 ⟨[], 0, [], 0⟩ | exact c22 ⟨[], 0, [], 0⟩ | fail)) | ((with_reducible apply callF_lend); (first | exact c12 | exact c13 x hlen | exact c14 x (by omega) hr.ty | exact c16 x (by omega) hr.ty | exact c15 x g1 g2 g3 | exact c17 ⟨[], 0, [], 0⟩ (by simp) | exact c20 ⟨[], 0, [], 0⟩ | exact c21 ⟨[], 0, [], 0⟩ | exact c22 ⟨[], 0, [], 0⟩ | fail); rfl) | ((with_reducible apply callF_go); (first | exact c12 | exact c13 x hlen | exact c14 x (by omega) hr.ty | exact c16 x (by omega) hr.ty | exact c15 x g1 g2 g3 | exact c17 ⟨[], 0, [], 0⟩ (by simp) | exact c20 ⟨[], 0, [], 0⟩ | exact c21 ⟨[], 0, [], 0⟩ | exact c22 ⟨[], 0, [], 0⟩ | fail)) | ((with_reducible show pickE _ _ _); first | refine pickE_intro _ ⟨by omega, by rfl⟩ ?_ | refine pickE_intro _ (by rfl) ?_) | fail); try simp -dsimp -implicitDefEqProofs (maxSteps := 1000000) (disch := first | omega | (simp only [LN, hg, hlay]; omega)) only [go_sem, Int.reduceToNat, Int.reducePow, Nat.reducePow, Int.reduceAdd, Int.reduceMul, Int.reduceSub, Int.reduceNeg, Nat.reduceAdd, Nat.reduceMul, Nat.reduceSub, Nat.reduceEqDiff, Nat.reduceLT, Nat.reduceLeDiff, hg, hlay])
        | fail)
      all_goals first | rfl | omega | (simp; done) | trace_state
end Go.Proofs.YtlkffmmgcoiniaaDoor
