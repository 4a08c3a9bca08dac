/- Contracts of functions of this program, and the plain facts that they rest on. No conditions. -/
import Derived.Test.YtlkffmmgcoiniaaDoorD10
set_option linter.unusedSimpArgs false
set_option linter.unusedVariables false
namespace Go.Proofs.YtlkffmmgcoiniaaDoor
open Go Go.Ab
attribute [local irreducible] callK callF loopQ vstep vskip pickE hideP
set_option maxRecDepth 100000
attribute [local go_sem] eF rF eS eP eX rX eQ eL
theorem plF_get (fs : List F) (i : Nat) : ∀ {c k : Nat}, k < c → (plF fs i c).getD k default = plAt fs i k
  | 0, _, h => absurd h (by omega)
  | c + 1, k, h => by
    rw [plF, List.getD_eq_getElem?_getD]
    rcases Nat.lt_or_ge k c with h1 | h1
    · rw [List.getElem?_append_left (by rw [plF_len]; exact h1), ← List.getD_eq_getElem?_getD, plF_get fs i h1]
    · obtain rfl : k = c := by omega
      rw [List.getElem?_append_right (by rw [plF_len]; exact Nat.le_refl _), plF_len]
      simp
theorem pls_get (fs : List F) : ∀ {n q : Nat}, q < (pls fs n).length → ∃ i k, i < n ∧ k < (fs.getD i default).cnt.toNat ∧ (pls fs n).getD q default = plAt fs i k
  | 0, _, h => absurd h (by simp [pls])
  | n + 1, q, h => by
    rw [pls, List.length_append, plF_len] at h
    rw [pls, List.getD_eq_getElem?_getD]
    rcases Nat.lt_or_ge q (pls fs n).length with h1 | h1
    · obtain ⟨i, k, h2, h3, h4⟩ := pls_get fs h1
      exact ⟨i, k, by omega, h3, by rw [List.getElem?_append_left h1, ← List.getD_eq_getElem?_getD, h4]⟩
    · refine ⟨n, q - (pls fs n).length, by omega, by omega, ?_⟩
      rw [List.getElem?_append_right h1, ← List.getD_eq_getElem?_getD, plF_get fs n (by omega)]
theorem elem_0 {w : Nat} (hw : WOk w) {p : Nat × Nat} (hp : p.2 ≤ 64) : elemP w p 0 = normP w p := by
  have := norm_run hw hp 0
  rw [runP_zero] at this
  exact this.symm
theorem slotAt_f (fs : List F) (i : Nat) : (slotAt fs i).f = fs.getD i default := rfl
theorem names_ne {fs : List F} {n : Nat} (h : ∀ k, k < n → errF fs k = 0) {i k : Nat} (hi : i < n) (hk : k < i) : ¬ (fs.getD k default).nm = (fs.getD i default).nm := fun he => by
  have h1 := (okF (h i hi)).2.2
  rw [(seen_at fs _ i).2 ⟨k, hk, he⟩] at h1
  cases h1
theorem findG {x : X} (G : Good x) {i : Nat} (hi : i < x.fs.length) (hl : x.fs.length ≤ 40) : PCalls Tryd.prog 19 [eL ⟨x.nm, x.ver, slotsTo x.fs x.fs.length, (posTo x.fs x.fs.length).1 + 1⟩, .v (.string (bs (x.fs.getD i default).nm))] (.tup [eS (slotAt x.fs i), .v (.int .i64 0)]) := by
  have hsl := slotsTo_len x.fs x.fs.length
  have hg : ∀ k, k < x.fs.length → (slotsTo x.fs x.fs.length).getD k default = slotAt x.fs k := fun k hk => slotsTo_get x.fs hk
  have := c19o ⟨x.nm, x.ver, slotsTo x.fs x.fs.length, (posTo x.fs x.fs.length).1 + 1⟩ (by simp only []; omega) (x.fs.getD i default).nm i (by simp only []; omega) (by simp only []; rw [hg i hi]; rfl) (fun k hk => by simp only []; rw [hg k (by omega)]; exact names_ne G.err hi hk)
  rw [show (La.mk x.nm x.ver (slotsTo x.fs x.fs.length) ((posTo x.fs x.fs.length).1 + 1)).sl.getD i default = slotAt x.fs i from hg i hi] at this
  exact this
theorem findN {x : X} (G : Good x) (hl : x.fs.length ≤ 40) (nm : List UInt8) (hn : ∀ k, k < x.fs.length → ¬ (x.fs.getD k default).nm = nm) : PCalls Tryd.prog 19 [eL ⟨x.nm, x.ver, slotsTo x.fs x.fs.length, (posTo x.fs x.fs.length).1 + 1⟩, .v (.string (bs nm))] (.tup [eS default, .v (.int .i64 5)]) := by
  have hsl := slotsTo_len x.fs x.fs.length
  have hg : ∀ k, k < x.fs.length → (slotsTo x.fs x.fs.length).getD k default = slotAt x.fs k := fun k hk => slotsTo_get x.fs hk
  exact c19n ⟨x.nm, x.ver, slotsTo x.fs x.fs.length, (posTo x.fs x.fs.length).1 + 1⟩ (by simp only []; omega) nm (fun k hk => by simp only [] at hk ⊢; rw [hg k (by omega)]; exact hn k (by omega))
theorem noName : nameM [110, 111, 32, 115, 117, 99, 104, 32, 110, 97, 109, 101, 33] = false := by decide
theorem plAt_k (fs : List F) (i k : Nat) : plAt fs i k = ⟨i, k, (plAt fs i k).wd, (plAt fs i k).sh, (plAt fs i k).wi⟩ := rfl
theorem plAt_0 (fs : List F) (i : Nat) (h : (posTo fs i).2 ≤ 64) : plAt fs i 0 = ⟨i, 0, (slotAt fs i).wd, (slotAt fs i).sh, (slotAt fs i).wi⟩ := by
  unfold plAt slotAt slotM
  rw [elem_0 (wok _) h]
attribute [local irreducible] plAt slotAt
set_option maxRecDepth 100000 in
set_option maxHeartbeats 4000000 in
theorem c3 (x : X) (hr : Rd x) : PCalls Tryd.prog 3 [eX x] (.v (.bool true)) := by
  refine pcalls_of (E := E) (fn := Tryd.f3) 119 [.tmp 2] rfl rfl rfl rfl (by decide) rfl ?_
  have hlen := hr.len
  by_cases hg : greatM x = true
  · repeat' (first
      | (with_reducible first | refine r_seq ?_ | refine r_block ?_ | refine fork_not ?_ | refine fork_and ?_ | refine fork_or ?_ | refine chk_ok (by kernel_rfl) ?_)
      | ((with_reducible first | refine fork_dec ?_ ?_ | refine fork_eq ?_ ?_ | refine fork_ne ?_ ?_ | refine fork_intro ?_ ?_) <;> intro h <;> try (exfalso; first | omega | exact h rfl | (revert h; decide) | (cases h; done)))
      | ((with_reducible show False); omega)
      | ((first | (with_reducible first | refine r_exit ?_ | refine r_skip ?_ | refine r_cond ?_ | refine r_region ?_ | show VX _ _ _ _ _ _ _ | show vstep _ _ _ _ _ | show vskip _ _ _ | show withV _ _) | ((with_reducible show endA _ _ _ _ _ _ _); simp -implicitDefEqProofs only [endA])); simp -dsimp -implicitDefEqProofs (maxSteps := 1000000) (disch := first | omega | (simp only [LN, hg]; omega)) only [go_sem, Int.reduceToNat, Int.reducePow, Nat.reducePow, Int.reduceAdd, Int.reduceMul, Int.reduceSub, Int.reduceNeg, Nat.reduceAdd, Nat.reduceMul, Nat.reduceSub, Nat.reduceEqDiff, Nat.reduceLT, Nat.reduceLeDiff, hg])
      | ((first | (with_reducible refine r_ret ?_) | (with_reducible refine pick_viewG default (by first | omega | (simp only [LN, hg]; omega)) (by first | omega | (simp only [LN, hg]; omega)) ?_) | (with_reducible refine pick_own default (by first | omega | (simp only [LN, hg]; omega)) ?_) | (with_reducible refine And.intro (by first | decide | omega | assumption | (simp only [LN, hg]; omega)) ?_) | ((with_reducible apply callK_pure); (first | exact c12 | exact c13 x hlen | fail)) | ((with_reducible apply callF_lend); (first | exact c12 | exact c13 x hlen | fail); rfl) | ((with_reducible apply callF_go); (first | exact c12 | exact c13 x hlen | fail)) | ((with_reducible show pickE _ _ _); first | refine pickE_intro _ ⟨by omega, by rfl⟩ ?_ | refine pickE_intro _ (by rfl) ?_) | fail); try simp -dsimp -implicitDefEqProofs (maxSteps := 1000000) (disch := first | omega | (simp only [LN, hg]; omega)) only [go_sem, Int.reduceToNat, Int.reducePow, Nat.reducePow, Int.reduceAdd, Int.reduceMul, Int.reduceSub, Int.reduceNeg, Nat.reduceAdd, Nat.reduceMul, Nat.reduceSub, Nat.reduceEqDiff, Nat.reduceLT, Nat.reduceLeDiff, hg])
      | fail)
    all_goals first | rfl | omega | (simp; done) | trace_state
  · have hg : greatM x = false := by simpa using hg
    obtain ⟨g1, g2, g3⟩ := greatM_f hg
    by_cases he : newE x = 0
    · have G := good_of he
      have hlay := G.lay
      have hsl := slotsTo_len x.fs x.fs.length
      have hpl := pls_len G.cnt x.fs.length (Nat.le_refl _)
      have cN := findN G g1 [110, 111, 32, 115, 117, 99, 104, 32, 110, 97, 109, 101, 33] (fun k hk e => by have := (okF (G.err k hk)).1; rw [e, noName] at this; cases this)
      repeat' (first
        | (with_reducible first | refine r_seq ?_ | refine r_block ?_ | refine fork_not ?_ | refine fork_and ?_ | refine fork_or ?_ | refine chk_ok (by kernel_rfl) ?_)
        | ((with_reducible first | refine fork_dec ?_ ?_ | refine fork_eq ?_ ?_ | refine fork_ne ?_ ?_ | refine fork_intro ?_ ?_) <;> intro h <;> try (exfalso; first | omega | exact h rfl | (revert h; decide) | (cases h; done)))
        | ((with_reducible show False); omega)
        | ((first | (with_reducible first | refine r_exit ?_ | refine r_skip ?_ | refine r_cond ?_ | refine r_region ?_ | show VX _ _ _ _ _ _ _ | show vstep _ _ _ _ _ | show vskip _ _ _ | show withV _ _) | ((with_reducible show endA _ _ _ _ _ _ _); simp -implicitDefEqProofs only [endA])); simp -dsimp -implicitDefEqProofs (maxSteps := 1000000) (disch := first | omega | (simp only [LN, hg, he, hlay, hsl]; omega)) only [go_sem, Int.reduceToNat, Int.reducePow, Nat.reducePow, Int.reduceAdd, Int.reduceMul, Int.reduceSub, Int.reduceNeg, Nat.reduceAdd, Nat.reduceMul, Nat.reduceSub, Nat.reduceEqDiff, Nat.reduceLT, Nat.reduceLeDiff, hg, he, hlay, hsl])
        | ((first | (with_reducible refine r_ret ?_) | (with_reducible refine pick_viewG default (by first | omega | (simp only [LN, hg, he, hlay, hsl]; omega)) (by first | omega | (simp only [LN, hg, he, hlay, hsl]; omega)) ?_) | (with_reducible refine pick_own default (by first | omega | (simp only [LN, hg, he, hlay, hsl]; omega)) ?_) | (with_reducible refine And.intro (by first | decide | omega | assumption | (simp only [LN, hg, he, hlay, hsl]; omega)) ?_) | ((with_reducible apply callK_pure); (first | exact c12 | exact c13 x hlen | exact c14 x (by omega) hr.ty | exact c16 x (by omega) hr.ty | exact c18 x g1 G.cnt | exact c17 ⟨x.nm, x.ver, slotsTo x.fs x.fs.length, (posTo x.fs x.fs.length).1 + 1⟩ (by simp only []; omega) | fail)) | ((with_reducible apply callF_lend); (first | exact c12 | exact c13 x hlen | exact c14 x (by omega) hr.ty | exact c16 x (by omega) hr.ty | exact c18 x g1 G.cnt | exact c17 ⟨x.nm, x.ver, slotsTo x.fs x.fs.length, (posTo x.fs x.fs.length).1 + 1⟩ (by simp only []; omega) | fail); rfl) | ((with_reducible apply callF_go); (first | exact c12 | exact c13 x hlen | exact c14 x (by omega) hr.ty | exact c16 x (by omega) hr.ty | exact c18 x g1 G.cnt | exact c17 ⟨x.nm, x.ver, slotsTo x.fs x.fs.length, (posTo x.fs x.fs.length).1 + 1⟩ (by simp only []; omega) | fail)) | ((with_reducible show pickE _ _ _); first | refine pickE_intro _ ⟨by omega, by rfl⟩ ?_ | refine pickE_intro _ (by rfl) ?_) | fail); try simp -dsimp -implicitDefEqProofs (maxSteps := 1000000) (disch := first | omega | (simp only [LN, hg, he, hlay, hsl]; omega)) only [go_sem, Int.reduceToNat, Int.reducePow, Nat.reducePow, Int.reduceAdd, Int.reduceMul, Int.reduceSub, Int.reduceNeg, Nat.reduceAdd, Nat.reduceMul, Nat.reduceSub, Nat.reduceEqDiff, Nat.reduceLT, Nat.reduceLeDiff, hg, he, hlay, hsl])
        | fail)
      all_goals try omega
      refine r_loopA (α := Nat) [1, 3, 5, 46, 47] (fun q b => [(48, aI q)]) (fun q b => []) (fun q => []) (fun q => q ≤ (pls x.fs x.fs.length).length) (fun q => (pls x.fs x.fs.length).length - q) (0) ?h0_1 ?hs0_1 ?I_1 ?hI_1 ?round_1
      case hI_1 => intro x; (simp -dsimp -implicitDefEqProofs (maxSteps := 1000000) (disch := first | omega | (simp only [LN]; omega)) only [go_sem, Int.reduceToNat, Int.reducePow, Nat.reducePow, Int.reduceAdd, Int.reduceMul, Int.reduceSub, Int.reduceNeg, Nat.reduceAdd, Nat.reduceMul, Nat.reduceSub, Nat.reduceEqDiff, Nat.reduceLT, Nat.reduceLeDiff]) <;> exact rfl
      case hs0_1 => refine wk_auto ?_; (simp -dsimp -implicitDefEqProofs (maxSteps := 1000000) (disch := first | omega | (simp only [LN]; omega)) only [go_sem, Int.reduceToNat, Int.reducePow, Nat.reducePow, Int.reduceAdd, Int.reduceMul, Int.reduceSub, Int.reduceNeg, Nat.reduceAdd, Nat.reduceMul, Nat.reduceSub, Nat.reduceEqDiff, Nat.reduceLT, Nat.reduceLeDiff]) <;> (try omega)
      case h0_1 => exact Nat.zero_le _
      case round_1 =>
        intro q hq
        by_cases hq2 : q < (pls x.fs x.fs.length).length
        · obtain ⟨i, k, hi, hk, hqe⟩ := pls_get x.fs hq2
          by_cases hk0 : k = 0
          · subst hk0
            have hpo := posTo_ok G.cnt i (by omega)
            have hq0 : plAt x.fs i 0 = ⟨i, 0, (slotAt x.fs i).wd, (slotAt x.fs i).sh, (slotAt x.fs i).wi⟩ := plAt_0 x.fs i hpo.1
            rw [hq0] at hqe
            have hsg := slotsTo_get x.fs hi
            have hsf := slotAt_f x.fs i
            have cF := findG G hi g1
            obtain ⟨s, hs⟩ : ∃ s, slotAt x.fs i = s := ⟨_, rfl⟩
            rw [hs] at hqe hsg hsf cF
            repeat' (first
              | (with_reducible first | refine r_seq ?_ | refine r_block ?_ | refine fork_not ?_ | refine fork_and ?_ | refine fork_or ?_ | refine chk_ok (by kernel_rfl) ?_)
              | ((with_reducible first | refine fork_dec ?_ ?_ | refine fork_eq ?_ ?_ | refine fork_ne ?_ ?_ | refine fork_intro ?_ ?_) <;> intro h <;> try (exfalso; first | omega | exact h rfl | (revert h; decide) | (cases h; done)))
              | ((with_reducible show False); omega)
              | ((first | (with_reducible first | refine r_exit ?_ | refine r_skip ?_ | refine r_cond ?_ | refine r_region ?_ | show VX _ _ _ _ _ _ _ | show vstep _ _ _ _ _ | show vskip _ _ _ | show withV _ _) | ((with_reducible show endA _ _ _ _ _ _ _); simp -implicitDefEqProofs only [endA])); simp -dsimp -implicitDefEqProofs (maxSteps := 1000000) (disch := first | omega | (simp only [LN, hqe, hsg, hsf]; omega)) only [go_sem, Int.reduceToNat, Int.reducePow, Nat.reducePow, Int.reduceAdd, Int.reduceMul, Int.reduceSub, Int.reduceNeg, Nat.reduceAdd, Nat.reduceMul, Nat.reduceSub, Nat.reduceEqDiff, Nat.reduceLT, Nat.reduceLeDiff, hqe, hsg, hsf])
              | ((first | (with_reducible refine r_ret ?_) | (with_reducible refine pick_viewG default (by first | omega | (simp only [LN, hqe, hsg, hsf]; omega)) (by first | omega | (simp only [LN, hqe, hsg, hsf]; omega)) ?_) | (with_reducible refine pick_own default (by first | omega | (simp only [LN, hqe, hsg, hsf]; omega)) ?_) | (with_reducible refine And.intro (by first | decide | omega | assumption | (simp only [LN, hqe, hsg, hsf]; omega)) ?_) | ((with_reducible apply callK_pure); (exact cF)) | ((with_reducible apply callF_lend); (exact cF); rfl) | ((with_reducible apply callF_go); (exact cF)) | ((with_reducible show pickE _ _ _); first | refine pickE_intro _ ⟨by omega, by rfl⟩ ?_ | refine pickE_intro _ (by rfl) ?_) | fail); try simp -dsimp -implicitDefEqProofs (maxSteps := 1000000) (disch := first | omega | (simp only [LN, hqe, hsg, hsf]; omega)) only [go_sem, Int.reduceToNat, Int.reducePow, Nat.reducePow, Int.reduceAdd, Int.reduceMul, Int.reduceSub, Int.reduceNeg, Nat.reduceAdd, Nat.reduceMul, Nat.reduceSub, Nat.reduceEqDiff, Nat.reduceLT, Nat.reduceLeDiff, hqe, hsg, hsf])
              | fail)
            all_goals first | rfl | omega | (refine loopQ_next (q + 1) ?_ ?_ ?_; (omega); (show _ < _; omega); (simp -dsimp -implicitDefEqProofs (maxSteps := 1000000) (disch := first | omega | (simp only [LN]; omega)) only [go_sem, Int.reduceToNat, Int.reducePow, Nat.reducePow, Int.reduceAdd, Int.reduceMul, Int.reduceSub, Int.reduceNeg, Nat.reduceAdd, Nat.reduceMul, Nat.reduceSub, Nat.reduceEqDiff, Nat.reduceLT, Nat.reduceLeDiff]; try trivial)) | (simp at *; done) | trace_state
          · have hq0 : plAt x.fs i k = ⟨i, k, (plAt x.fs i k).wd, (plAt x.fs i k).sh, (plAt x.fs i k).wi⟩ := plAt_k x.fs i k
            rw [hq0] at hqe
            repeat' (first
              | (with_reducible first | refine r_seq ?_ | refine r_block ?_ | refine fork_not ?_ | refine fork_and ?_ | refine fork_or ?_ | refine chk_ok (by kernel_rfl) ?_)
              | ((with_reducible first | refine fork_dec ?_ ?_ | refine fork_eq ?_ ?_ | refine fork_ne ?_ ?_ | refine fork_intro ?_ ?_) <;> intro h <;> try (exfalso; first | omega | exact h rfl | (revert h; decide) | (cases h; done)))
              | ((with_reducible show False); omega)
              | ((first | (with_reducible first | refine r_exit ?_ | refine r_skip ?_ | refine r_cond ?_ | refine r_region ?_ | show VX _ _ _ _ _ _ _ | show vstep _ _ _ _ _ | show vskip _ _ _ | show withV _ _) | ((with_reducible show endA _ _ _ _ _ _ _); simp -implicitDefEqProofs only [endA])); simp -dsimp -implicitDefEqProofs (maxSteps := 1000000) (disch := first | omega | (simp only [LN, hqe]; omega)) only [go_sem, Int.reduceToNat, Int.reducePow, Nat.reducePow, Int.reduceAdd, Int.reduceMul, Int.reduceSub, Int.reduceNeg, Nat.reduceAdd, Nat.reduceMul, Nat.reduceSub, Nat.reduceEqDiff, Nat.reduceLT, Nat.reduceLeDiff, hqe])
              | ((first | (with_reducible refine r_ret ?_) | (with_reducible refine pick_viewG default (by first | omega | (simp only [LN, hqe]; omega)) (by first | omega | (simp only [LN, hqe]; omega)) ?_) | (with_reducible refine pick_own default (by first | omega | (simp only [LN, hqe]; omega)) ?_) | (with_reducible refine And.intro (by first | decide | omega | assumption | (simp only [LN, hqe]; omega)) ?_) | ((with_reducible show pickE _ _ _); first | refine pickE_intro _ ⟨by omega, by rfl⟩ ?_ | refine pickE_intro _ (by rfl) ?_) | fail); try simp -dsimp -implicitDefEqProofs (maxSteps := 1000000) (disch := first | omega | (simp only [LN, hqe]; omega)) only [go_sem, Int.reduceToNat, Int.reducePow, Nat.reducePow, Int.reduceAdd, Int.reduceMul, Int.reduceSub, Int.reduceNeg, Nat.reduceAdd, Nat.reduceMul, Nat.reduceSub, Nat.reduceEqDiff, Nat.reduceLT, Nat.reduceLeDiff, hqe])
              | fail)
            all_goals first | rfl | omega | (refine loopQ_next (q + 1) ?_ ?_ ?_; (omega); (show _ < _; omega); (simp -dsimp -implicitDefEqProofs (maxSteps := 1000000) (disch := first | omega | (simp only [LN]; omega)) only [go_sem, Int.reduceToNat, Int.reducePow, Nat.reducePow, Int.reduceAdd, Int.reduceMul, Int.reduceSub, Int.reduceNeg, Nat.reduceAdd, Nat.reduceMul, Nat.reduceSub, Nat.reduceEqDiff, Nat.reduceLT, Nat.reduceLeDiff]; try trivial)) | (simp; done) | trace_state
        · repeat' (first
            | (with_reducible first | refine r_seq ?_ | refine r_block ?_ | refine fork_not ?_ | refine fork_and ?_ | refine fork_or ?_ | refine chk_ok (by kernel_rfl) ?_)
            | ((with_reducible first | refine fork_dec ?_ ?_ | refine fork_eq ?_ ?_ | refine fork_ne ?_ ?_ | refine fork_intro ?_ ?_) <;> intro h <;> try (exfalso; first | omega | exact h rfl | (revert h; decide) | (cases h; done)))
            | ((with_reducible show False); omega)
            | ((first | (with_reducible first | refine r_exit ?_ | refine r_skip ?_ | refine r_cond ?_ | refine r_region ?_ | show VX _ _ _ _ _ _ _ | show vstep _ _ _ _ _ | show vskip _ _ _ | show withV _ _) | ((with_reducible show endA _ _ _ _ _ _ _); simp -implicitDefEqProofs only [endA])); simp -dsimp -implicitDefEqProofs (maxSteps := 1000000) (disch := first | omega | (simp only [LN]; omega)) only [go_sem, Int.reduceToNat, Int.reducePow, Nat.reducePow, Int.reduceAdd, Int.reduceMul, Int.reduceSub, Int.reduceNeg, Nat.reduceAdd, Nat.reduceMul, Nat.reduceSub, Nat.reduceEqDiff, Nat.reduceLT, Nat.reduceLeDiff])
            | ((first | (with_reducible refine r_ret ?_) | (with_reducible refine pick_viewG default (by first | omega | (simp only [LN]; omega)) (by first | omega | (simp only [LN]; omega)) ?_) | (with_reducible refine pick_own default (by first | omega | (simp only [LN]; omega)) ?_) | (with_reducible refine And.intro (by first | decide | omega | assumption | (simp only [LN]; omega)) ?_) | ((with_reducible apply callK_pure); (exact cN)) | ((with_reducible apply callF_lend); (exact cN); rfl) | ((with_reducible apply callF_go); (exact cN)) | ((with_reducible show pickE _ _ _); first | refine pickE_intro _ ⟨by omega, by rfl⟩ ?_ | refine pickE_intro _ (by rfl) ?_) | fail); try simp -dsimp -implicitDefEqProofs (maxSteps := 1000000) (disch := first | omega | (simp only [LN]; omega)) only [go_sem, Int.reduceToNat, Int.reducePow, Nat.reducePow, Int.reduceAdd, Int.reduceMul, Int.reduceSub, Int.reduceNeg, Nat.reduceAdd, Nat.reduceMul, Nat.reduceSub, Nat.reduceEqDiff, Nat.reduceLT, Nat.reduceLeDiff])
            | fail)
          all_goals first | rfl | omega | (simp; done) | trace_state
    · have hlay := lay_bad he
      repeat' (first
        | (with_reducible first | refine r_seq ?_ | refine r_block ?_ | refine fork_not ?_ | refine fork_and ?_ | refine fork_or ?_ | refine chk_ok (by kernel_rfl) ?_)
        | ((with_reducible first | refine fork_dec ?_ ?_ | refine fork_eq ?_ ?_ | refine fork_ne ?_ ?_ | refine fork_intro ?_ ?_) <;> intro h <;> try (exfalso; first | omega | exact h rfl | (revert h; decide) | (cases h; done)))
        | ((with_reducible show False); omega)
        | ((first | (with_reducible first | refine r_exit ?_ | refine r_skip ?_ | refine r_cond ?_ | refine r_region ?_ | show VX _ _ _ _ _ _ _ | show vstep _ _ _ _ _ | show vskip _ _ _ | show withV _ _) | ((with_reducible show endA _ _ _ _ _ _ _); simp -implicitDefEqProofs only [endA])); simp -dsimp -implicitDefEqProofs (maxSteps := 1000000) (disch := first | omega | (simp only [LN, hg, hlay]; omega)) only [go_sem, Int.reduceToNat, Int.reducePow, Nat.reducePow, Int.reduceAdd, Int.reduceMul, Int.reduceSub, Int.reduceNeg, Nat.reduceAdd, Nat.reduceMul, Nat.reduceSub, Nat.reduceEqDiff, Nat.reduceLT, Nat.reduceLeDiff, hg, hlay])
        | ((first | (with_reducible refine r_ret ?_) | (with_reducible refine pick_viewG default (by first | omega | (simp only [LN, hg, hlay]; omega)) (by first | omega | (simp only [LN, hg, hlay]; omega)) ?_) | (with_reducible refine pick_own default (by first | omega | (simp only [LN, hg, hlay]; omega)) ?_) | (with_reducible refine And.intro (by first | decide | omega | assumption | (simp only [LN, hg, hlay]; omega)) ?_) | ((with_reducible apply callK_pure); (first | exact c12 | exact c13 x hlen | exact c14 x (by omega) hr.ty | exact c16 x (by omega) hr.ty | exact c15 x g1 g2 g3 | fail)) | ((with_reducible apply callF_lend); (first | exact c12 | exact c13 x hlen | exact c14 x (by omega) hr.ty | exact c16 x (by omega) hr.ty | exact c15 x g1 g2 g3 | fail); rfl) | ((with_reducible apply callF_go); (first | exact c12 | exact c13 x hlen | exact c14 x (by omega) hr.ty | exact c16 x (by omega) hr.ty | exact c15 x g1 g2 g3 | fail)) | ((with_reducible show pickE _ _ _); first | refine pickE_intro _ ⟨by omega, by rfl⟩ ?_ | refine pickE_intro _ (by rfl) ?_) | fail); try simp -dsimp -implicitDefEqProofs (maxSteps := 1000000) (disch := first | omega | (simp only [LN, hg, hlay]; omega)) only [go_sem, Int.reduceToNat, Int.reducePow, Nat.reducePow, Int.reduceAdd, Int.reduceMul, Int.reduceSub, Int.reduceNeg, Nat.reduceAdd, Nat.reduceMul, Nat.reduceSub, Nat.reduceEqDiff, Nat.reduceLT, Nat.reduceLeDiff, hg, hlay])
        | fail)
      all_goals first | rfl | omega | (simp [he]; done) | trace_state
end Go.Proofs.YtlkffmmgcoiniaaDoor
