/- Contracts of functions of this program, and the plain facts that they rest on. No conditions. -/
import Derived.Test.YtlkffmmgcoiniaaDoorD32
set_option linter.unusedSimpArgs false
set_option linter.unusedVariables false
namespace Go.Proofs.YtlkffmmgcoiniaaDoor
open Go Go.Ab
attribute [local irreducible] callK callF loopQ vstep vskip pickE hideP
open Go.RowKit
set_option maxRecDepth 100000
attribute [local go_sem] eF rF eS eP eX rX eQ eL
theorem dec_step (u : Nat) (h : ¬ u < 10) : Lib.decDigits u = Lib.decDigits (u / 10) ++ [UInt8.ofNat (48 + u % 10)] := by rw [Lib.decDigits, dif_neg h]
theorem dec_one (u : Nat) (h : u < 10) : Lib.decDigits u = [UInt8.ofNat (48 + u)] := by rw [Lib.decDigits, dif_pos h]
def NInv (n u : Nat) (acc : List UInt8) : Prop := u ≤ n ∧ acc.length ≤ 20 ∧ (u = 0 ∧ acc = Lib.decDigits n ∨ (0 < u ∨ acc = []) ∧ acc.length + Lib.nDigits u ≤ 20 ∧ Lib.decDigits n = Lib.decDigits u ++ acc)
theorem nInv_0 {n : Nat} (h : n ≤ 18446744073709551615) : NInv n n [] := ⟨Nat.le_refl _, Nat.zero_le _, .inr ⟨by simp, by simpa using Lib.nDigits_le20 n (by omega), by simp⟩⟩
theorem nInv_s {n u : Nat} {acc : List UInt8} (h : NInv n u acc) (hc : 0 < u ∨ acc = []) : NInv n (u / 10) (UInt8.ofNat (48 + u % 10) :: acc) := by
  obtain ⟨h1, h2, h3⟩ := h
  rcases h3 with ⟨h3, h4⟩ | ⟨_, h4, h5⟩
  · rcases hc with hc | hc
    · omega
    · rw [hc] at h4; exact absurd h4.symm (dec_ne n)
  · by_cases h6 : u < 10
    · rw [Lib.nDigits_small h6] at h4
      rw [dec_one u h6] at h5
      refine ⟨by omega, by simp only [List.length_cons]; omega, .inl ⟨by omega, ?_⟩⟩
      rw [h5, show u % 10 = u by omega]; rfl
    · rw [Lib.nDigits_big h6] at h4
      rw [dec_step u h6, List.append_assoc] at h5
      exact ⟨by omega, by simp only [List.length_cons]; have := Lib.nDigits_pos (u / 10); omega, .inr ⟨.inl (by omega), by simp only [List.length_cons]; omega, h5⟩⟩
theorem nInv_end {n u : Nat} {acc : List UInt8} (h : NInv n u acc) (hu : ¬ 0 < u) (ha : ¬ acc = []) : acc = Lib.decDigits n := by
  rcases h.2.2 with ⟨_, h4⟩ | ⟨h4, _⟩
  · exact h4
  · rcases h4 with h4 | h4
    · exact absurd h4 hu
    · exact absurd h4 ha
theorem nMs {u : Nat} {acc : List UInt8} {x : UInt8} (hc : 0 < u ∨ acc = []) : u / 10 + (if x :: acc = [] then 1 else 0) < u + (if acc = [] then 1 else 0) := by
  rw [if_neg (by simp)]
  split
  · omega
  · rcases hc with hc | hc
    · omega
    · rename_i h; exact absurd hc h
theorem tm10 (u : Nat) : Int.tmod (u : Int) 10 = (u : Int) % 10 := rfl
theorem td10 (u : Nat) : Int.tdiv (u : Int) 10 = (u : Int) / 10 := rfl
theorem dU (u : Nat) : UInt8.ofNat (IntKind.u8.wrap (48 + (u : Int) % 10)).toNat = UInt8.ofNat (48 + u % 10) := by
  rw [wr8]; congr 1; omega
set_option maxRecDepth 100000 in
set_option maxHeartbeats 4000000 in
theorem c55 (n : Nat) (h1 : n ≤ 9223372036854775807) : PCalls Tryd.prog 55 [.v (.int .i64 n)] (.v (.string (bs (Lib.decDigits n)))) := by
  refine pcalls_of (E := E) (fn := Tryd.f55) 21 [.tmp 2] rfl rfl rfl rfl (by decide) rfl ?_
  repeat' (first
    | (with_reducible first | refine r_seq ?_ | refine r_block ?_ | refine fork_not ?_ | refine fork_and ?_ | refine fork_or ?_ | refine chk_ok (by kernel_rfl) ?_)
    | ((with_reducible first | refine fork_dec ?_ ?_ | refine fork_eq ?_ ?_ | refine fork_ne ?_ ?_ | refine fork_intro ?_ ?_) <;> intro h)
    | ((with_reducible show False); omega)
    | ((first | (with_reducible first | refine r_exit ?_ | refine r_skip ?_ | refine r_cond ?_ | refine r_region ?_ | show VX _ _ _ _ _ _ _ | show vstep _ _ _ _ _ | show vskip _ _ _ | show withV _ _) | ((with_reducible show endA _ _ _ _ _ _ _); simp -implicitDefEqProofs only [endA])); simp -dsimp -implicitDefEqProofs (maxSteps := 1000000) (disch := first | omega | (simp only [LN]; omega)) only [go_sem, Int.reduceToNat, Int.reducePow, Nat.reducePow, Int.reduceAdd, Int.reduceMul, Int.reduceSub, Int.reduceNeg, Nat.reduceAdd, Nat.reduceMul, Nat.reduceSub, Nat.reduceEqDiff, Nat.reduceLT, Nat.reduceLeDiff])
    | ((first | (with_reducible refine r_ret ?_) | (with_reducible refine pick_viewG default (by first | omega | (simp only [LN]; omega)) (by first | omega | (simp only [LN]; omega)) ?_) | (with_reducible refine pick_own default (by first | omega | (simp only [LN]; omega)) ?_) | (with_reducible refine And.intro (by first | decide | omega | assumption | (simp only [LN]; omega)) ?_) | ((with_reducible show pickE _ _ _); first | refine pickE_intro _ ⟨by omega, by rfl⟩ ?_ | refine pickE_intro _ (by rfl) ?_) | fail); try simp -dsimp -implicitDefEqProofs (maxSteps := 1000000) (disch := first | omega | (simp only [LN]; omega)) only [go_sem, Int.reduceToNat, Int.reducePow, Nat.reducePow, Int.reduceAdd, Int.reduceMul, Int.reduceSub, Int.reduceNeg, Nat.reduceAdd, Nat.reduceMul, Nat.reduceSub, Nat.reduceEqDiff, Nat.reduceLT, Nat.reduceLeDiff])
    | fail)
  refine r_loopA (α := Nat × List UInt8) [] (fun q b => [(0, .p (.v (.int .i64 q.1))), (3, .p (.v (.string (bs q.2))))]) (fun q b => []) (fun q => []) (fun q => NInv n q.1 q.2) (fun q => q.1 + (if q.2 = [] then 1 else 0)) ((n, [])) ?h0_1 ?hs0_1 ?I_1 ?hI_1 ?round_1
  case hI_1 => intro x; (simp -dsimp -implicitDefEqProofs (maxSteps := 1000000) (disch := first | omega | (simp only [LN]; omega)) only [go_sem, Int.reduceToNat, Int.reducePow, Nat.reducePow, Int.reduceAdd, Int.reduceMul, Int.reduceSub, Int.reduceNeg, Nat.reduceAdd, Nat.reduceMul, Nat.reduceSub, Nat.reduceEqDiff, Nat.reduceLT, Nat.reduceLeDiff]) <;> exact rfl
  case hs0_1 => refine wk_auto ?_; (simp -dsimp -implicitDefEqProofs (maxSteps := 1000000) (disch := first | omega | (simp only [LN]; omega)) only [go_sem, Int.reduceToNat, Int.reducePow, Nat.reducePow, Int.reduceAdd, Int.reduceMul, Int.reduceSub, Int.reduceNeg, Nat.reduceAdd, Nat.reduceMul, Nat.reduceSub, Nat.reduceEqDiff, Nat.reduceLT, Nat.reduceLeDiff]) <;> (try omega)
  case h0_1 => exact nInv_0 (by omega)
  case round_1 =>
    rintro ⟨u, acc⟩ g
    dsimp only at g
    have g1 := g.1
    have g2 := g.2.1
    have hw : IntKind.i64.wrap ((u : Int) / 10) = ((u / 10 : Nat) : Int) := by rw [i64w (by omega) (by omega)]; omega
    have hw2 : IntKind.i64.wrap (48 + (u : Int) % 10) = 48 + (u : Int) % 10 := i64w (by omega) (by omega)
    have hw3 : (u : Int) / 10 = ((u / 10 : Nat) : Int) := by omega
    repeat' (first
      | (with_reducible first | refine r_seq ?_ | refine r_block ?_ | refine fork_not ?_ | refine fork_and ?_ | refine fork_or ?_ | refine chk_ok (by kernel_rfl) ?_)
      | ((with_reducible first | refine fork_dec ?_ ?_ | refine fork_eq ?_ ?_ | refine fork_ne ?_ ?_ | refine fork_intro ?_ ?_) <;> intro h <;> try (exfalso; first | omega | exact h rfl | (revert h; decide) | (cases h; done)))
      | ((with_reducible show False); omega)
      | ((first | (with_reducible first | refine r_exit ?_ | refine r_skip ?_ | refine r_cond ?_ | refine r_region ?_ | show VX _ _ _ _ _ _ _ | show vstep _ _ _ _ _ | show vskip _ _ _ | show withV _ _) | ((with_reducible show endA _ _ _ _ _ _ _); simp -implicitDefEqProofs only [endA])); simp -dsimp -implicitDefEqProofs (maxSteps := 1000000) (disch := first | omega | (simp only [LN]; omega)) only [go_sem, Int.reduceToNat, Int.reducePow, Nat.reducePow, Int.reduceAdd, Int.reduceMul, Int.reduceSub, Int.reduceNeg, Nat.reduceAdd, Nat.reduceMul, Nat.reduceSub, Nat.reduceEqDiff, Nat.reduceLT, Nat.reduceLeDiff])
      | ((first | (with_reducible refine r_ret ?_) | (with_reducible refine pick_viewG default (by first | omega | (simp only [LN]; omega)) (by first | omega | (simp only [LN]; omega)) ?_) | (with_reducible refine pick_own default (by first | omega | (simp only [LN]; omega)) ?_) | (with_reducible refine And.intro (by first | decide | omega | assumption | (simp only [LN]; omega)) ?_) | ((with_reducible show pickE _ _ _); first | refine pickE_intro _ ⟨by omega, by rfl⟩ ?_ | refine pickE_intro _ (by rfl) ?_) | fail); try simp -dsimp -implicitDefEqProofs (maxSteps := 1000000) (disch := first | omega | (simp only [LN]; omega)) only [go_sem, Int.reduceToNat, Int.reducePow, Nat.reducePow, Int.reduceAdd, Int.reduceMul, Int.reduceSub, Int.reduceNeg, Nat.reduceAdd, Nat.reduceMul, Nat.reduceSub, Nat.reduceEqDiff, Nat.reduceLT, Nat.reduceLeDiff])
      | fail)
    all_goals first
      | (have hc : 0 < u ∨ acc = [] := by first | exact .inl (by omega) | exact .inr (by simpa using ‹decide (acc = []) = true›)
         refine loopQ_next (u / 10, UInt8.ofNat (48 + u % 10) :: acc) (nInv_s g hc) (nMs hc) ?_; (simp -dsimp -implicitDefEqProofs (maxSteps := 1000000) (disch := first | omega | (simp only [LN, tm10, td10, hw, hw2, dU]; omega)) only [go_sem, Int.reduceToNat, Int.reducePow, Nat.reducePow, Int.reduceAdd, Int.reduceMul, Int.reduceSub, Int.reduceNeg, Nat.reduceAdd, Nat.reduceMul, Nat.reduceSub, Nat.reduceEqDiff, Nat.reduceLT, Nat.reduceLeDiff, tm10, td10, hw, hw2, dU]; try trivial))
      | (have hn : ¬ acc = [] := by simpa using ‹decide (acc = []) = false›
         rw [nInv_end g (by omega) hn])
      | trace_state
theorem c55n (n : Int) (h : 0 ≤ n ∧ n ≤ 9223372036854775807) : PCalls Tryd.prog 55 [.v (.int .i64 n)] (.v (.string (bs (numL n)))) := by
  have := c55 n.toNat (by omega)
  rw [show ((n.toNat : Nat) : Int) = n by omega, ← numL_pos h.1] at this
  exact this
/-- The text of a layout. -/
def fT (fs : List F) : Nat → List UInt8
  | 0 => []
  | i + 1 => fT fs i ++ fieldL (fs.getD i default)
def textX (x : X) : List UInt8 := headL x.nm x.ver ++ fT x.fs x.fs.length ++ [32, 125]
theorem fT_e (fs : List F) (n : Nat) : ∀ i, i ≤ n → fldsT (slotsTo fs n) i = fT fs i
  | 0, _ => rfl
  | i + 1, h => by rw [fldsT_s, fT, fT_e fs n i (by omega), slotsTo_get fs (by omega)]; rfl
theorem nameM_16 {l : List UInt8} (h : nameM l = true) : 1 ≤ l.length ∧ l.length ≤ 16 := by
  by_cases h2 : 1 ≤ l.length ∧ l.length ≤ 16
  · exact h2
  · rw [nameM_len h2] at h; cases h
theorem fok_of {x : X} (G : Good x) {i : Nat} (hi : i < x.fs.length) : FOk (x.fs.getD i default) := by
  obtain ⟨h1, h2, _⟩ := okF (G.err i hi)
  have hc := G.cnt i hi
  exact ⟨by have := (nameM_16 h1).2; omega, ⟨h2.1, h2.2.1⟩, by omega, by omega⟩
theorem c32G {x : X} (G : Good x) (hl : x.fs.length ≤ 100000) : PCalls Tryd.prog 32 [eL ⟨x.nm, x.ver, slotsTo x.fs x.fs.length, (posTo x.fs x.fs.length).1 + 1⟩] (.v (.string (bs (textX x)))) := by
  have hsl := slotsTo_len x.fs x.fs.length
  have := c32 ⟨x.nm, x.ver, slotsTo x.fs x.fs.length, (posTo x.fs x.fs.length).1 + 1⟩ (by rw [hsl]; exact hl) (by rw [hsl]; have := G.arg; omega) (by have := (nameM_16 G.nm).2; show x.nm.length ≤ 100; omega) (by have := G.arg; show -9223372036854775808 ≤ x.ver ∧ x.ver ≤ 9223372036854775807; omega)
    (fun i hi => by rw [hsl] at hi; show FOk ((slotsTo x.fs x.fs.length).getD i default).f; rw [slotsTo_get x.fs hi]; exact fok_of G hi)
  unfold textX
  rw [← fT_e x.fs x.fs.length x.fs.length (Nat.le_refl _)]
  rw [show (La.mk x.nm x.ver (slotsTo x.fs x.fs.length) ((posTo x.fs x.fs.length).1 + 1)).sl.length = x.fs.length from hsl] at this
  exact this
theorem fT_len {x : X} (G : Good x) : ∀ i, i ≤ x.fs.length → (fT x.fs i).length ≤ 133 * i
  | 0, _ => Nat.zero_le _
  | i + 1, hi => by
    have h1 := fT_len G i (by omega)
    have h2 := fieldL_len (fok_of G (show i < x.fs.length by omega))
    rw [fT, List.length_append]; omega
theorem textX_len {x : X} (G : Good x) : (textX x).length ≤ 133 * x.fs.length + 127 := by
  have h1 := fT_len G x.fs.length (Nat.le_refl _)
  have h2 := headL_len (nm := x.nm) (ver := x.ver) (by have := (nameM_16 G.nm).2; omega) (by have := G.arg; omega)
  simp only [textX, List.length_append, List.length_cons, List.length_nil]; omega
theorem fT_0 (fs : List F) : fT fs 0 = [] := rfl
theorem fT_s (fs : List F) (i : Nat) : fT fs (i + 1) = fT fs i ++ fieldL (fs.getD i default) := rfl
attribute [local irreducible] numL typeL headL fieldL fT textX
set_option maxRecDepth 100000 in
set_option maxHeartbeats 4000000 in
theorem c34 (x : X) (G : Good x) (hl : x.fs.length ≤ 1000) : PCalls Tryd.prog 34 [rX x] (.v (.string (bs (textX x)))) := by
  refine pcalls_of (E := E) (fn := Tryd.f34) 54 [.tmp 2] rfl rfl rfl rfl (by decide) rfl ?_
  have harg := G.arg
  have hnm := (nameM_16 G.nm).2
  have hh := headL_len (nm := x.nm) (ver := x.ver) (by omega) (by omega)
  have hnv := numL_len (n := x.ver) (by omega)
  have he := headL_e x.nm x.ver
  repeat' (first
    | (with_reducible first | refine r_seq ?_ | refine r_block ?_ | refine fork_not ?_ | refine fork_and ?_ | refine fork_or ?_ | refine chk_ok (by kernel_rfl) ?_)
    | ((with_reducible first | refine fork_dec ?_ ?_ | refine fork_eq ?_ ?_ | refine fork_ne ?_ ?_ | refine fork_intro ?_ ?_) <;> intro h <;> try (exfalso; first | omega | exact h rfl | (revert h; decide) | (cases h; done)))
    | ((with_reducible show False); omega)
    | ((first | (with_reducible first | refine r_exit ?_ | refine r_skip ?_ | refine r_cond ?_ | refine r_region ?_ | show VX _ _ _ _ _ _ _ | show vstep _ _ _ _ _ | show vskip _ _ _ | show withV _ _) | ((with_reducible show endA _ _ _ _ _ _ _); simp -implicitDefEqProofs only [endA])); simp -dsimp -implicitDefEqProofs (maxSteps := 1000000) (disch := first | omega | (simp only [LN]; omega)) only [go_sem, Int.reduceToNat, Int.reducePow, Nat.reducePow, Int.reduceAdd, Int.reduceMul, Int.reduceSub, Int.reduceNeg, Nat.reduceAdd, Nat.reduceMul, Nat.reduceSub, Nat.reduceEqDiff, Nat.reduceLT, Nat.reduceLeDiff])
    | ((first | (with_reducible refine r_ret ?_) | (with_reducible refine pick_viewG default (by first | omega | (simp only [LN]; omega)) (by first | omega | (simp only [LN]; omega)) ?_) | (with_reducible refine pick_own default (by first | omega | (simp only [LN]; omega)) ?_) | (with_reducible refine And.intro (by first | decide | omega | assumption | (simp only [LN]; omega)) ?_) | ((with_reducible apply callK_pure); (exact c55n x.ver (by omega))) | ((with_reducible apply callF_lend); (exact c55n x.ver (by omega)); rfl) | ((with_reducible apply callF_go); (exact c55n x.ver (by omega))) | ((with_reducible show pickE _ _ _); first | refine pickE_intro _ ⟨by omega, by rfl⟩ ?_ | refine pickE_intro _ (by rfl) ?_) | fail); try simp -dsimp -implicitDefEqProofs (maxSteps := 1000000) (disch := first | omega | (simp only [LN]; omega)) only [go_sem, Int.reduceToNat, Int.reducePow, Nat.reducePow, Int.reduceAdd, Int.reduceMul, Int.reduceSub, Int.reduceNeg, Nat.reduceAdd, Nat.reduceMul, Nat.reduceSub, Nat.reduceEqDiff, Nat.reduceLT, Nat.reduceLeDiff])
    | fail)
  refine r_loopA (α := Nat) [1, 3] (fun i b => [(4, .p (.v (.string (bs (headL x.nm x.ver ++ fT x.fs i))))), (5, aI i)]) (fun i b => []) (fun i => []) (fun i => i ≤ x.fs.length) (fun i => x.fs.length - i) (0) ?h0_2 ?hs0_2 ?I_2 ?hI_2 ?round_2
  case hI_2 => intro x; (simp -dsimp -implicitDefEqProofs (maxSteps := 1000000) (disch := first | omega | (simp only [LN]; omega)) only [go_sem, Int.reduceToNat, Int.reducePow, Nat.reducePow, Int.reduceAdd, Int.reduceMul, Int.reduceSub, Int.reduceNeg, Nat.reduceAdd, Nat.reduceMul, Nat.reduceSub, Nat.reduceEqDiff, Nat.reduceLT, Nat.reduceLeDiff]) <;> exact rfl
  case hs0_2 => refine wk_auto ?_; (simp -dsimp -implicitDefEqProofs (maxSteps := 1000000) (disch := first | omega | (simp only [LN, he, fT_0, List.append_nil, List.append_assoc, List.cons_append, List.nil_append]; omega)) only [go_sem, Int.reduceToNat, Int.reducePow, Nat.reducePow, Int.reduceAdd, Int.reduceMul, Int.reduceSub, Int.reduceNeg, Nat.reduceAdd, Nat.reduceMul, Nat.reduceSub, Nat.reduceEqDiff, Nat.reduceLT, Nat.reduceLeDiff, he, fT_0, List.append_nil, List.append_assoc, List.cons_append, List.nil_append]) <;> (try omega)
  case h0_2 => exact Nat.zero_le _
  case round_2 =>
    intro i h1
    have hlen := fT_len G i h1
    by_cases hi : i < x.fs.length
    · have hf := fok_of G hi
      have hf2 := hf
      obtain ⟨f1, f2, f3⟩ := hf2
      have hcc := G.cnt i hi
      have hnc := numL_len (n := (x.fs.getD i default).cnt) (by omega)
      have htl := typeL_len f2
      have hfs := fT_s x.fs i
      by_cases hc1 : (x.fs.getD i default).cnt = 1
      · have hfl := fieldL_1 hc1
        rcases tyc7 f2 with hty | hty | hty | hty | hty | hty | hty
        all_goals
          rw [hty] at hfl htl
          simp only [typeL1, typeL2, typeL3, typeL4, typeL5, typeL6, typeL7] at hfl
          rw [hfl] at hfs
          repeat' (first
            | (with_reducible first | refine r_seq ?_ | refine r_block ?_ | refine fork_not ?_ | refine fork_and ?_ | refine fork_or ?_ | refine chk_ok (by kernel_rfl) ?_)
            | ((with_reducible first | refine fork_dec ?_ ?_ | refine fork_eq ?_ ?_ | refine fork_ne ?_ ?_ | refine fork_intro ?_ ?_) <;> intro h <;> try (exfalso; first | omega | exact h rfl | (revert h; decide) | (cases h; done)))
            | ((with_reducible show False); omega)
            | ((first | (with_reducible first | refine r_exit ?_ | refine r_skip ?_ | refine r_cond ?_ | refine r_region ?_ | show VX _ _ _ _ _ _ _ | show vstep _ _ _ _ _ | show vskip _ _ _ | show withV _ _) | ((with_reducible show endA _ _ _ _ _ _ _); simp -implicitDefEqProofs only [endA])); simp -dsimp -implicitDefEqProofs (maxSteps := 1000000) (disch := first | omega | (simp only [LN, hty, hc1]; omega)) only [go_sem, Int.reduceToNat, Int.reducePow, Nat.reducePow, Int.reduceAdd, Int.reduceMul, Int.reduceSub, Int.reduceNeg, Nat.reduceAdd, Nat.reduceMul, Nat.reduceSub, Nat.reduceEqDiff, Nat.reduceLT, Nat.reduceLeDiff, hty, hc1])
            | ((first | (with_reducible refine r_ret ?_) | (with_reducible refine pick_viewG default (by first | omega | (simp only [LN, hty, hc1]; omega)) (by first | omega | (simp only [LN, hty, hc1]; omega)) ?_) | (with_reducible refine pick_own default (by first | omega | (simp only [LN, hty, hc1]; omega)) ?_) | (with_reducible refine And.intro (by first | decide | omega | assumption | (simp only [LN, hty, hc1]; omega)) ?_) | ((with_reducible show pickE _ _ _); first | refine pickE_intro _ ⟨by omega, by rfl⟩ ?_ | refine pickE_intro _ (by rfl) ?_) | fail); try simp -dsimp -implicitDefEqProofs (maxSteps := 1000000) (disch := first | omega | (simp only [LN, hty, hc1]; omega)) only [go_sem, Int.reduceToNat, Int.reducePow, Nat.reducePow, Int.reduceAdd, Int.reduceMul, Int.reduceSub, Int.reduceNeg, Nat.reduceAdd, Nat.reduceMul, Nat.reduceSub, Nat.reduceEqDiff, Nat.reduceLT, Nat.reduceLeDiff, hty, hc1])
            | fail)
          (refine loopQ_next (i + 1) ?_ ?_ ?_; (omega); (show _ < _; omega); (simp -dsimp -implicitDefEqProofs (maxSteps := 1000000) (disch := first | omega | (simp only [LN, hfs, List.append_nil, List.append_assoc, List.cons_append, List.nil_append]; omega)) only [go_sem, Int.reduceToNat, Int.reducePow, Nat.reducePow, Int.reduceAdd, Int.reduceMul, Int.reduceSub, Int.reduceNeg, Nat.reduceAdd, Nat.reduceMul, Nat.reduceSub, Nat.reduceEqDiff, Nat.reduceLT, Nat.reduceLeDiff, hfs, List.append_nil, List.append_assoc, List.cons_append, List.nil_append]; try trivial))
          all_goals (first | omega | trace_state)
      · have hfl := fieldL_n hc1
        rcases tyc7 f2 with hty | hty | hty | hty | hty | hty | hty
        all_goals
          rw [hty] at hfl htl
          simp only [typeL1, typeL2, typeL3, typeL4, typeL5, typeL6, typeL7] at hfl
          rw [hfl] at hfs
          repeat' (first
            | (with_reducible first | refine r_seq ?_ | refine r_block ?_ | refine fork_not ?_ | refine fork_and ?_ | refine fork_or ?_ | refine chk_ok (by kernel_rfl) ?_)
            | ((with_reducible first | refine fork_dec ?_ ?_ | refine fork_eq ?_ ?_ | refine fork_ne ?_ ?_ | refine fork_intro ?_ ?_) <;> intro h <;> try (exfalso; first | omega | exact h rfl | (revert h; decide) | (cases h; done)))
            | ((with_reducible show False); omega)
            | ((first | (with_reducible first | refine r_exit ?_ | refine r_skip ?_ | refine r_cond ?_ | refine r_region ?_ | show VX _ _ _ _ _ _ _ | show vstep _ _ _ _ _ | show vskip _ _ _ | show withV _ _) | ((with_reducible show endA _ _ _ _ _ _ _); simp -implicitDefEqProofs only [endA])); simp -dsimp -implicitDefEqProofs (maxSteps := 1000000) (disch := first | omega | (simp only [LN, hty]; omega)) only [go_sem, Int.reduceToNat, Int.reducePow, Nat.reducePow, Int.reduceAdd, Int.reduceMul, Int.reduceSub, Int.reduceNeg, Nat.reduceAdd, Nat.reduceMul, Nat.reduceSub, Nat.reduceEqDiff, Nat.reduceLT, Nat.reduceLeDiff, hty])
            | ((first | (with_reducible refine r_ret ?_) | (with_reducible refine pick_viewG default (by first | omega | (simp only [LN, hty]; omega)) (by first | omega | (simp only [LN, hty]; omega)) ?_) | (with_reducible refine pick_own default (by first | omega | (simp only [LN, hty]; omega)) ?_) | (with_reducible refine And.intro (by first | decide | omega | assumption | (simp only [LN, hty]; omega)) ?_) | ((with_reducible apply callK_pure); (exact c55n _ (by omega))) | ((with_reducible apply callF_lend); (exact c55n _ (by omega)); rfl) | ((with_reducible apply callF_go); (exact c55n _ (by omega))) | ((with_reducible show pickE _ _ _); first | refine pickE_intro _ ⟨by omega, by rfl⟩ ?_ | refine pickE_intro _ (by rfl) ?_) | fail); try simp -dsimp -implicitDefEqProofs (maxSteps := 1000000) (disch := first | omega | (simp only [LN, hty]; omega)) only [go_sem, Int.reduceToNat, Int.reducePow, Nat.reducePow, Int.reduceAdd, Int.reduceMul, Int.reduceSub, Int.reduceNeg, Nat.reduceAdd, Nat.reduceMul, Nat.reduceSub, Nat.reduceEqDiff, Nat.reduceLT, Nat.reduceLeDiff, hty])
            | fail)
          (refine loopQ_next (i + 1) ?_ ?_ ?_; (omega); (show _ < _; omega); (simp -dsimp -implicitDefEqProofs (maxSteps := 1000000) (disch := first | omega | (simp only [LN, hfs, List.append_nil, List.append_assoc, List.cons_append, List.nil_append]; omega)) only [go_sem, Int.reduceToNat, Int.reducePow, Nat.reducePow, Int.reduceAdd, Int.reduceMul, Int.reduceSub, Int.reduceNeg, Nat.reduceAdd, Nat.reduceMul, Nat.reduceSub, Nat.reduceEqDiff, Nat.reduceLT, Nat.reduceLeDiff, hfs, List.append_nil, List.append_assoc, List.cons_append, List.nil_append]; try trivial))
          all_goals (first | omega | trace_state)
    · obtain rfl : i = x.fs.length := by omega
      repeat' (first
        | (with_reducible first | refine r_seq ?_ | refine r_block ?_ | refine fork_not ?_ | refine fork_and ?_ | refine fork_or ?_ | refine chk_ok (by kernel_rfl) ?_)
        | ((with_reducible first | refine fork_dec ?_ ?_ | refine fork_eq ?_ ?_ | refine fork_ne ?_ ?_ | refine fork_intro ?_ ?_) <;> intro h <;> try (exfalso; first | omega | exact h rfl | (revert h; decide) | (cases h; done)))
        | ((with_reducible show False); omega)
        | ((first | (with_reducible first | refine r_exit ?_ | refine r_skip ?_ | refine r_cond ?_ | refine r_region ?_ | show VX _ _ _ _ _ _ _ | show vstep _ _ _ _ _ | show vskip _ _ _ | show withV _ _) | ((with_reducible show endA _ _ _ _ _ _ _); simp -implicitDefEqProofs only [endA])); simp -dsimp -implicitDefEqProofs (maxSteps := 1000000) (disch := first | omega | (simp only [LN]; omega)) only [go_sem, Int.reduceToNat, Int.reducePow, Nat.reducePow, Int.reduceAdd, Int.reduceMul, Int.reduceSub, Int.reduceNeg, Nat.reduceAdd, Nat.reduceMul, Nat.reduceSub, Nat.reduceEqDiff, Nat.reduceLT, Nat.reduceLeDiff])
        | ((first | (with_reducible refine r_ret ?_) | (with_reducible refine pick_viewG default (by first | omega | (simp only [LN]; omega)) (by first | omega | (simp only [LN]; omega)) ?_) | (with_reducible refine pick_own default (by first | omega | (simp only [LN]; omega)) ?_) | (with_reducible refine And.intro (by first | decide | omega | assumption | (simp only [LN]; omega)) ?_) | ((with_reducible show pickE _ _ _); first | refine pickE_intro _ ⟨by omega, by rfl⟩ ?_ | refine pickE_intro _ (by rfl) ?_) | fail); try simp -dsimp -implicitDefEqProofs (maxSteps := 1000000) (disch := first | omega | (simp only [LN]; omega)) only [go_sem, Int.reduceToNat, Int.reducePow, Nat.reducePow, Int.reduceAdd, Int.reduceMul, Int.reduceSub, Int.reduceNeg, Nat.reduceAdd, Nat.reduceMul, Nat.reduceSub, Nat.reduceEqDiff, Nat.reduceLT, Nat.reduceLeDiff])
        | fail)
      all_goals first | (unfold textX; rfl) | omega | trace_state
end Go.Proofs.YtlkffmmgcoiniaaDoor
