/- Contracts of functions of this program, and the plain facts that they rest on. No conditions. -/
import Derived.Test.YtlkffmmgcoiniaaDoorD6
import Derived.Test.YtlkffmmgcoiniaaDoorBld2
import Derived.Test.YtlkffmmgcoiniaaDoorAc4
import Derived.Lib.ItoaLen
set_option linter.unusedSimpArgs false
set_option linter.unusedVariables false
namespace Go.Proofs.YtlkffmmgcoiniaaDoor
open Go Go.Ab
attribute [local irreducible] callK callF loopQ vstep vskip pickE hideP
open Go.RowKit
set_option maxRecDepth 100000
attribute [local go_sem] eF rF eS eP eX rX eQ eL
theorem below_grow (w : World) (k : Nat) (os : Array Obj) : Below w.heap.size w (Go.Sort.grow (w.drewN k) os) := by
  have e : (w.drewN k).heap = w.heap := by simp
  refine ⟨rfl, rfl, rfl, by simp [Go.Sort.grow, e], fun j hj => ?_⟩
  simp only [Go.Sort.grow, e]
  exact Array.getElem?_append_left hj
/-- The decimal numeral of a number. -/
def numL (n : Int) : List UInt8 := Lib.itoa n
theorem numL_pos {n : Int} (h : 0 ≤ n) : numL n = Lib.decDigits n.toNat := by unfold numL Lib.itoa; rw [if_neg (by omega)]
theorem numL_len {n : Int} (h : -9223372036854775808 ≤ n ∧ n ≤ 18446744073709551615) : (numL n).length ≤ 21 ∧ 1 ≤ (numL n).length := by
  have key : ∀ u : Nat, u < 18446744073709551616 → (Lib.decDigits u).length ≤ 20 ∧ 1 ≤ (Lib.decDigits u).length := fun u hu => by
    rw [Lib.decDigits_length]
    refine ⟨Lib.nDigits_le20 u (by omega), ?_⟩
    rw [Lib.nDigits]; split <;> omega
  unfold numL Lib.itoa
  split
  · have := key n.natAbs (by omega)
    rw [List.length_cons]; omega
  · have := key n.toNat (by omega); omega
theorem c52 (n : Int) (h : -9223372036854775808 ≤ n ∧ n ≤ 9223372036854775807) : PCalls Tryd.prog 52 [.v (.int .i64 n)] (.v (.string (bs (numL n)))) := by
  refine pcalls_val ⟨_, rfl, rfl, by decide⟩ (u := .string (bs (numL n))) (fun Z w => by simp [Rep, oneB]) fun Z w vals hz hv => ?_
  have e : vals = [.int .i64 n] := by
    simp only [Reps, Rep] at hv
    obtain ⟨_, _, rfl, ⟨rfl, _⟩, rfl⟩ := hv
    rfl
  subst e
  exact (Tryd.strconv_Itoa n h.1 h.2 w hz.gl.2.1).mono fun e w' ⟨he, k, os, hw⟩ => ⟨he, by rw [hw]; exact below_grow w k os⟩
theorem d51f (s : List UInt8) (h0 : s.length ≠ 0) (hlen : s.length ≤ 1000000000) :
    ACalls Tryd.prog 51 [.loc 0 0, .p (.v (.string (bs s)))] [.bld 103 (.p (.v (.slice none 0 0)))] (.p (.tup [.v (.int .i64 s.length), .v .nilIface])) [.bld 103 (.sl 1 1 0 s.length), .byt 5 s] := by
  have := ac_writeString0 (P := Tryd.prog) (f := 51) ⟨_, rfl, rfl, by decide⟩ (fun b p v b2 s w hp h hl => Tryd.b_writeString b p v b2 s w hp h hl) (bs s) (by rw [bs_size]; exact h0) (by rw [bs_size]; omega)
  rw [bs_size] at this; exact this
theorem d51 (b s : List UInt8) (n : Nat) (hn : n = b.length) (h0 : n ≠ 0) (hlen : n + s.length ≤ 1000000000) :
    ACalls Tryd.prog 51 [.loc 0 0, .p (.v (.string (bs s)))] [.bld 103 (.sl 1 1 0 n), .byt 5 b] (.p (.tup [.v (.int .i64 s.length), .v .nilIface])) [.bld 103 (.sl 2 1 0 (b ++ s).length), .dead, .byt 5 (b ++ s)] := by
  subst hn
  have := ac_writeString (P := Tryd.prog) (f := 51) ⟨_, rfl, rfl, by decide⟩ (fun b p v b2 s w hp h hl => Tryd.b_writeString b p v b2 s w hp h hl) b (bs s) h0 (by rw [bs_size]; omega)
  rw [bs_size] at this; exact this
theorem d53 (b : List UInt8) (n : Nat) (hn : n = b.length) (h0 : n ≠ 0) :
    ACalls Tryd.prog 53 [.loc 0 0] [.bld 103 (.sl 1 1 0 n), .byt 5 b] (.p (.v (.string (bs b)))) [.bld 103 (.sl 2 1 0 b.length), .dead, .byt 5 b] := by
  subst hn
  exact ac_string (P := Tryd.prog) (f := 53) ⟨_, rfl, rfl, by decide⟩ (fun b p v l w h hl => b_string Tryd.lays169 Tryd.Builder_Extra_169 b p v l w h hl) b h0
/-! The text. -/
def typeL (t : Int) : List UInt8 := nameBs.getD t.toNat []
def countL (c : Int) : List UInt8 := if c = 1 then [] else [91] ++ numL c ++ [93]
def fieldL (f : F) : List UInt8 := [32] ++ f.nm ++ [32] ++ typeL f.ty ++ countL f.cnt ++ [59]
def headL (nm : List UInt8) (ver : Int) : List UInt8 := nm ++ [32, 118] ++ numL ver ++ [32, 123]
def fldsT (l : List S) : Nat → List UInt8
  | 0 => []
  | i + 1 => fldsT l i ++ fieldL (l.getD i default).f
def textM (l : La) : List UInt8 := if l.sl.length = 0 then [] else headL l.nm l.ver ++ fldsT l.sl l.sl.length ++ [32, 125]
theorem typeL1 : typeL 1 = [117, 54, 52] := rfl
theorem typeL2 : typeL 2 = [105, 54, 52] := rfl
theorem typeL3 : typeL 3 = [117, 51, 50] := rfl
theorem typeL4 : typeL 4 = [117, 49, 54] := rfl
theorem typeL5 : typeL 5 = [117, 56] := rfl
theorem typeL6 : typeL 6 = [102, 108, 97, 103] := rfl
theorem typeL7 : typeL 7 = [112, 111, 105, 110, 116, 101, 114] := rfl
theorem typeL_len {t : Int} (h : 1 ≤ t ∧ t ≤ 7) : (typeL t).length ≤ 7 := by
  rcases tyc7 h with rfl | rfl | rfl | rfl | rfl | rfl | rfl <;> decide
/-- What a slot's field may be. -/
def FOk (f : F) : Prop := f.nm.length ≤ 100 ∧ (1 ≤ f.ty ∧ f.ty ≤ 7) ∧ (-9223372036854775808 ≤ f.cnt ∧ f.cnt ≤ 9223372036854775807)
theorem countL_len {c : Int} (h : -9223372036854775808 ≤ c ∧ c ≤ 9223372036854775807) : (countL c).length ≤ 23 := by
  unfold countL
  have := numL_len (n := c) (by omega)
  split
  · simp
  · simp only [List.length_append, List.length_cons, List.length_nil]; omega
theorem fieldL_len {f : F} (h : FOk f) : (fieldL f).length ≤ 133 := by
  unfold fieldL
  have h1 := typeL_len h.2.1
  have h2 := countL_len h.2.2
  have h3 := h.1
  simp only [List.length_append, List.length_cons, List.length_nil]; omega
theorem fldsT_len {l : List S} (h : ∀ i, i < l.length → FOk (l.getD i default).f) : ∀ i, i ≤ l.length → (fldsT l i).length ≤ 133 * i
  | 0, _ => by simp [fldsT]
  | i + 1, hi => by
    have h1 := fldsT_len h i (by omega)
    have h2 := fieldL_len (h i (by omega))
    simp only [fldsT, List.length_append]; omega
theorem headL_len {nm : List UInt8} {ver : Int} (hn : nm.length ≤ 100) (hv : -9223372036854775808 ≤ ver ∧ ver ≤ 9223372036854775807) : (headL nm ver).length ≤ 125 ∧ 1 ≤ (headL nm ver).length := by
  unfold headL
  have := numL_len (n := ver) (by omega)
  simp only [List.length_append, List.length_cons, List.length_nil]; omega
theorem fldsT_0 (l : List S) : fldsT l 0 = [] := rfl
theorem fldsT_s (l : List S) (i : Nat) : fldsT l (i + 1) = fldsT l i ++ fieldL (l.getD i default).f := rfl
theorem headL_e (nm : List UInt8) (ver : Int) : headL nm ver = nm ++ [32, 118] ++ numL ver ++ [32, 123] := rfl
theorem fieldL_1 {f : F} (h : f.cnt = 1) : fieldL f = [32] ++ f.nm ++ [32] ++ typeL f.ty ++ [59] := by unfold fieldL countL; rw [if_pos h]; simp
theorem fieldL_n {f : F} (h : ¬ f.cnt = 1) : fieldL f = [32] ++ f.nm ++ [32] ++ typeL f.ty ++ ([91] ++ numL f.cnt ++ [93]) ++ [59] := by unfold fieldL countL; rw [if_neg h]
attribute [local irreducible] numL fldsT typeL headL fieldL textM
set_option maxRecDepth 100000 in
set_option maxHeartbeats 4000000 in
theorem c32 (l : La) (hl : l.sl.length ≤ 100000) (hne : l.sl.length ≠ 0) (hn : l.nm.length ≤ 100) (hv : -9223372036854775808 ≤ l.ver ∧ l.ver ≤ 9223372036854775807) (hs : ∀ i, i < l.sl.length → FOk (l.sl.getD i default).f) : PCalls Tryd.prog 32 [eL l] (.v (.string (bs (headL l.nm l.ver ++ fldsT l.sl l.sl.length ++ [32, 125])))) := by
  refine pcalls_of (E := E) (fn := Tryd.f32) 53 [.tmp 2] rfl rfl rfl rfl (by decide) rfl ?_
  have hh := headL_len hn hv
  have hnv := numL_len (n := l.ver) (by omega)
  have he := headL_e l.nm l.ver
  repeat' (first
    | (with_reducible first | refine r_seq ?_ | refine r_block ?_ | refine fork_not ?_ | refine fork_and ?_ | refine fork_or ?_ | refine chk_ok (by kernel_rfl) ?_)
    | ((with_reducible first | refine fork_dec ?_ ?_ | refine fork_eq ?_ ?_ | refine fork_ne ?_ ?_ | refine fork_intro ?_ ?_) <;> intro h <;> try (exfalso; first | omega | exact h rfl | (revert h; decide) | (cases h; done)))
    | ((with_reducible show False); omega)
    | ((first | (with_reducible first | refine r_exit ?_ | refine r_skip ?_ | refine r_cond ?_ | refine r_region ?_ | show VX _ _ _ _ _ _ _ | show vstep _ _ _ _ _ | show vskip _ _ _ | show withV _ _) | ((with_reducible show endA _ _ _ _ _ _ _); simp -implicitDefEqProofs only [endA])); simp -dsimp -implicitDefEqProofs (maxSteps := 1000000) (disch := first | omega | (simp only [LN]; omega)) only [go_sem, Int.reduceToNat, Int.reducePow, Nat.reducePow, Int.reduceAdd, Int.reduceMul, Int.reduceSub, Int.reduceNeg, Nat.reduceAdd, Nat.reduceMul, Nat.reduceSub, Nat.reduceEqDiff, Nat.reduceLT, Nat.reduceLeDiff])
    | ((first | (with_reducible refine r_ret ?_) | (with_reducible refine pick_viewG default (by first | omega | (simp only [LN]; omega)) (by first | omega | (simp only [LN]; omega)) ?_) | (with_reducible refine pick_own default (by first | omega | (simp only [LN]; omega)) ?_) | (with_reducible refine And.intro (by first | decide | omega | assumption | (simp only [LN]; omega)) ?_) | ((with_reducible apply callK_pure); (exact c52 l.ver hv)) | ((with_reducible apply callF_lend); (exact c52 l.ver hv); rfl) | ((with_reducible apply callF_go); (exact c52 l.ver hv)) | (with_reducible first | apply callK_lent | apply callF_lent | apply hideP_own) | ((with_reducible apply callA_go); (first | exact d51f _ (by (try simp only [List.length_append, List.length_cons, List.length_nil]) <;> omega) (by (try simp only [List.length_append, List.length_cons, List.length_nil]) <;> omega) | exact d51 _ _ _ (by (try simp only [List.length_append, List.length_cons, List.length_nil]) <;> omega) (by (try simp only [List.length_append, List.length_cons, List.length_nil]) <;> omega) (by (try simp only [List.length_append, List.length_cons, List.length_nil]) <;> omega) | exact d53 _ _ (by (try simp only [List.length_append, List.length_cons, List.length_nil]) <;> omega) (by (try simp only [List.length_append, List.length_cons, List.length_nil]) <;> omega) | fail)) | ((with_reducible show pickE _ _ _); first | refine pickE_intro _ ⟨by omega, by rfl⟩ ?_ | refine pickE_intro _ (by rfl) ?_) | fail); try simp -dsimp -implicitDefEqProofs (maxSteps := 1000000) (disch := first | omega | (simp only [LN]; omega)) only [go_sem, Int.reduceToNat, Int.reducePow, Nat.reducePow, Int.reduceAdd, Int.reduceMul, Int.reduceSub, Int.reduceNeg, Nat.reduceAdd, Nat.reduceMul, Nat.reduceSub, Nat.reduceEqDiff, Nat.reduceLT, Nat.reduceLeDiff])
    | fail)
  refine r_loopA (α := Nat) [3, 20, 21] (fun i b => [(22, aI i)]) (fun i b => [(3, .bld 103 (.sl b 1 0 (headL l.nm l.ver ++ fldsT l.sl i).length))]) (fun i => [.byt 5 (headL l.nm l.ver ++ fldsT l.sl i)]) (fun i => i ≤ l.sl.length) (fun i => l.sl.length - i) (0) ?h0_1 ?hs0_1 ?I_1 ?hI_1 ?round_1
  case hI_1 => intro x; (simp -dsimp -implicitDefEqProofs (maxSteps := 1000000) (disch := first | omega | (simp only [LN]; omega)) only [go_sem, Int.reduceToNat, Int.reducePow, Nat.reducePow, Int.reduceAdd, Int.reduceMul, Int.reduceSub, Int.reduceNeg, Nat.reduceAdd, Nat.reduceMul, Nat.reduceSub, Nat.reduceEqDiff, Nat.reduceLT, Nat.reduceLeDiff]) <;> exact rfl
  case hs0_1 => refine wk_auto ?_; (simp -dsimp -implicitDefEqProofs (maxSteps := 1000000) (disch := first | omega | (simp only [LN, he, fldsT_0, List.append_nil, List.append_assoc, List.cons_append, List.nil_append, List.length_append, List.length_cons, List.length_nil]; omega)) only [go_sem, Int.reduceToNat, Int.reducePow, Nat.reducePow, Int.reduceAdd, Int.reduceMul, Int.reduceSub, Int.reduceNeg, Nat.reduceAdd, Nat.reduceMul, Nat.reduceSub, Nat.reduceEqDiff, Nat.reduceLT, Nat.reduceLeDiff, he, fldsT_0, List.append_nil, List.append_assoc, List.cons_append, List.nil_append, List.length_append, List.length_cons, List.length_nil]) <;> (try omega)
  case h0_1 => exact Nat.zero_le _
  case round_1 =>
    intro i h1
    have hlen := fldsT_len hs i h1
    by_cases hi : i < l.sl.length
    · have hf := hs i hi
      have hf2 := hf
      obtain ⟨f1, f2, f3⟩ := hf2
      have hnc := numL_len (n := (l.sl.getD i default).f.cnt) (by omega)
      have htl := typeL_len f2
      have hfs := fldsT_s l.sl i
      by_cases hc1 : (l.sl.getD i default).f.cnt = 1
      · have hfl := fieldL_1 hc1
        rcases tyc7 f2 with hty | hty | hty | hty | hty | hty | hty
        all_goals
          rw [hty] at hfl htl
          simp only [typeL1, typeL2, typeL3, typeL4, typeL5, typeL6, typeL7] at hfl
          rw [hfl] at hfs
          repeat' (first
            | (with_reducible first | refine r_seq ?_ | refine r_block ?_ | refine fork_not ?_ | refine fork_and ?_ | refine fork_or ?_ | refine chk_ok (by kernel_rfl) ?_)
            | ((with_reducible first | refine fork_dec ?_ ?_ | refine fork_eq ?_ ?_ | refine fork_ne ?_ ?_ | refine fork_intro ?_ ?_) <;> intro h <;> try (exfalso; first | omega | exact h rfl | (revert h; decide) | (cases h; done)))
            | ((with_reducible show False); omega)
            | ((first | (with_reducible first | refine r_exit ?_ | refine r_skip ?_ | refine r_cond ?_ | refine r_region ?_ | show VX _ _ _ _ _ _ _ | show vstep _ _ _ _ _ | show vskip _ _ _ | show withV _ _) | ((with_reducible show endA _ _ _ _ _ _ _); simp -implicitDefEqProofs only [endA])); simp -dsimp -implicitDefEqProofs (maxSteps := 1000000) (disch := first | omega | (simp only [LN, hty, hc1]; omega)) only [go_sem, Int.reduceToNat, Int.reducePow, Nat.reducePow, Int.reduceAdd, Int.reduceMul, Int.reduceSub, Int.reduceNeg, Nat.reduceAdd, Nat.reduceMul, Nat.reduceSub, Nat.reduceEqDiff, Nat.reduceLT, Nat.reduceLeDiff, hty, hc1])
            | ((first | (with_reducible refine r_ret ?_) | (with_reducible refine pick_viewG default (by first | omega | (simp only [LN, hty, hc1]; omega)) (by first | omega | (simp only [LN, hty, hc1]; omega)) ?_) | (with_reducible refine pick_own default (by first | omega | (simp only [LN, hty, hc1]; omega)) ?_) | (with_reducible refine And.intro (by first | decide | omega | assumption | (simp only [LN, hty, hc1]; omega)) ?_) | (with_reducible first | apply callK_lent | apply callF_lent | apply hideP_own) | ((with_reducible apply callA_go); (first | exact d51 _ _ _ (by (try simp only [List.length_append, List.length_cons, List.length_nil]) <;> omega) (by (try simp only [List.length_append, List.length_cons, List.length_nil]) <;> omega) (by (try simp only [List.length_append, List.length_cons, List.length_nil]) <;> omega) | fail)) | ((with_reducible show pickE _ _ _); first | refine pickE_intro _ ⟨by omega, by rfl⟩ ?_ | refine pickE_intro _ (by rfl) ?_) | fail); try simp -dsimp -implicitDefEqProofs (maxSteps := 1000000) (disch := first | omega | (simp only [LN, hty, hc1]; omega)) only [go_sem, Int.reduceToNat, Int.reducePow, Nat.reducePow, Int.reduceAdd, Int.reduceMul, Int.reduceSub, Int.reduceNeg, Nat.reduceAdd, Nat.reduceMul, Nat.reduceSub, Nat.reduceEqDiff, Nat.reduceLT, Nat.reduceLeDiff, hty, hc1])
            | fail)
          (refine loopQ_next (i + 1) ?_ ?_ ?_; (omega); (show _ < _; omega); (simp -dsimp -implicitDefEqProofs (maxSteps := 1000000) (disch := first | omega | (simp only [LN, hfs, List.append_nil, List.append_assoc, List.cons_append, List.nil_append, List.length_append, List.length_cons, List.length_nil]; omega)) only [go_sem, Int.reduceToNat, Int.reducePow, Nat.reducePow, Int.reduceAdd, Int.reduceMul, Int.reduceSub, Int.reduceNeg, Nat.reduceAdd, Nat.reduceMul, Nat.reduceSub, Nat.reduceEqDiff, Nat.reduceLT, Nat.reduceLeDiff, hfs, List.append_nil, List.append_assoc, List.cons_append, List.nil_append, List.length_append, List.length_cons, List.length_nil]; try trivial))
          all_goals (first | omega | trace_state)
      · have hfl := fieldL_n hc1
        rcases tyc7 f2 with hty | hty | hty | hty | hty | hty | hty
        all_goals
          rw [hty] at hfl htl
          simp only [typeL1, typeL2, typeL3, typeL4, typeL5, typeL6, typeL7] at hfl
          rw [hfl] at hfs
          repeat' (first
            | (with_reducible first | refine r_seq ?_ | refine r_block ?_ | refine fork_not ?_ | refine fork_and ?_ | refine fork_or ?_ | refine chk_ok (by kernel_rfl) ?_)
            | ((with_reducible first | refine fork_dec ?_ ?_ | refine fork_eq ?_ ?_ | refine fork_ne ?_ ?_ | refine fork_intro ?_ ?_) <;> intro h <;> try (exfalso; first | omega | exact h rfl | (revert h; decide) | (cases h; done)))
            | ((with_reducible show False); omega)
            | ((first | (with_reducible first | refine r_exit ?_ | refine r_skip ?_ | refine r_cond ?_ | refine r_region ?_ | show VX _ _ _ _ _ _ _ | show vstep _ _ _ _ _ | show vskip _ _ _ | show withV _ _) | ((with_reducible show endA _ _ _ _ _ _ _); simp -implicitDefEqProofs only [endA])); simp -dsimp -implicitDefEqProofs (maxSteps := 1000000) (disch := first | omega | (simp only [LN, hty]; omega)) only [go_sem, Int.reduceToNat, Int.reducePow, Nat.reducePow, Int.reduceAdd, Int.reduceMul, Int.reduceSub, Int.reduceNeg, Nat.reduceAdd, Nat.reduceMul, Nat.reduceSub, Nat.reduceEqDiff, Nat.reduceLT, Nat.reduceLeDiff, hty])
            | ((first | (with_reducible refine r_ret ?_) | (with_reducible refine pick_viewG default (by first | omega | (simp only [LN, hty]; omega)) (by first | omega | (simp only [LN, hty]; omega)) ?_) | (with_reducible refine pick_own default (by first | omega | (simp only [LN, hty]; omega)) ?_) | (with_reducible refine And.intro (by first | decide | omega | assumption | (simp only [LN, hty]; omega)) ?_) | ((with_reducible apply callK_pure); (exact c52 _ f3)) | ((with_reducible apply callF_lend); (exact c52 _ f3); rfl) | ((with_reducible apply callF_go); (exact c52 _ f3)) | (with_reducible first | apply callK_lent | apply callF_lent | apply hideP_own) | ((with_reducible apply callA_go); (first | exact d51 _ _ _ (by (try simp only [List.length_append, List.length_cons, List.length_nil]) <;> omega) (by (try simp only [List.length_append, List.length_cons, List.length_nil]) <;> omega) (by (try simp only [List.length_append, List.length_cons, List.length_nil]) <;> omega) | fail)) | ((with_reducible show pickE _ _ _); first | refine pickE_intro _ ⟨by omega, by rfl⟩ ?_ | refine pickE_intro _ (by rfl) ?_) | fail); try simp -dsimp -implicitDefEqProofs (maxSteps := 1000000) (disch := first | omega | (simp only [LN, hty]; omega)) only [go_sem, Int.reduceToNat, Int.reducePow, Nat.reducePow, Int.reduceAdd, Int.reduceMul, Int.reduceSub, Int.reduceNeg, Nat.reduceAdd, Nat.reduceMul, Nat.reduceSub, Nat.reduceEqDiff, Nat.reduceLT, Nat.reduceLeDiff, hty])
            | fail)
          (refine loopQ_next (i + 1) ?_ ?_ ?_; (omega); (show _ < _; omega); (simp -dsimp -implicitDefEqProofs (maxSteps := 1000000) (disch := first | omega | (simp only [LN, hfs, List.append_nil, List.append_assoc, List.cons_append, List.nil_append, List.length_append, List.length_cons, List.length_nil]; omega)) only [go_sem, Int.reduceToNat, Int.reducePow, Nat.reducePow, Int.reduceAdd, Int.reduceMul, Int.reduceSub, Int.reduceNeg, Nat.reduceAdd, Nat.reduceMul, Nat.reduceSub, Nat.reduceEqDiff, Nat.reduceLT, Nat.reduceLeDiff, hfs, List.append_nil, List.append_assoc, List.cons_append, List.nil_append, List.length_append, List.length_cons, List.length_nil]; try trivial))
          all_goals (first | omega | trace_state)
    · obtain rfl : i = l.sl.length := by omega
      repeat' (first
        | (with_reducible first | refine r_seq ?_ | refine r_block ?_ | refine fork_not ?_ | refine fork_and ?_ | refine fork_or ?_ | refine chk_ok (by kernel_rfl) ?_)
        | ((with_reducible first | refine fork_dec ?_ ?_ | refine fork_eq ?_ ?_ | refine fork_ne ?_ ?_ | refine fork_intro ?_ ?_) <;> intro h <;> try (exfalso; first | omega | exact h rfl | (revert h; decide) | (cases h; done)))
        | ((with_reducible show False); omega)
        | ((first | (with_reducible first | refine r_exit ?_ | refine r_skip ?_ | refine r_cond ?_ | refine r_region ?_ | show VX _ _ _ _ _ _ _ | show vstep _ _ _ _ _ | show vskip _ _ _ | show withV _ _) | ((with_reducible show endA _ _ _ _ _ _ _); simp -implicitDefEqProofs only [endA])); simp -dsimp -implicitDefEqProofs (maxSteps := 1000000) (disch := first | omega | (simp only [LN, List.append_assoc]; omega)) only [go_sem, Int.reduceToNat, Int.reducePow, Nat.reducePow, Int.reduceAdd, Int.reduceMul, Int.reduceSub, Int.reduceNeg, Nat.reduceAdd, Nat.reduceMul, Nat.reduceSub, Nat.reduceEqDiff, Nat.reduceLT, Nat.reduceLeDiff, List.append_assoc])
        | ((first | (with_reducible refine r_ret ?_) | (with_reducible refine pick_viewG default (by first | omega | (simp only [LN, List.append_assoc]; omega)) (by first | omega | (simp only [LN, List.append_assoc]; omega)) ?_) | (with_reducible refine pick_own default (by first | omega | (simp only [LN, List.append_assoc]; omega)) ?_) | (with_reducible refine And.intro (by first | decide | omega | assumption | (simp only [LN, List.append_assoc]; omega)) ?_) | (with_reducible first | apply callK_lent | apply callF_lent | apply hideP_own) | ((with_reducible apply callA_go); (first | exact d51 _ _ _ (by (try simp only [List.length_append, List.length_cons, List.length_nil]) <;> omega) (by (try simp only [List.length_append, List.length_cons, List.length_nil]) <;> omega) (by (try simp only [List.length_append, List.length_cons, List.length_nil]) <;> omega) | exact d53 _ _ (by (try simp only [List.length_append, List.length_cons, List.length_nil]) <;> omega) (by (try simp only [List.length_append, List.length_cons, List.length_nil]) <;> omega) | fail)) | ((with_reducible show pickE _ _ _); first | refine pickE_intro _ ⟨by omega, by rfl⟩ ?_ | refine pickE_intro _ (by rfl) ?_) | fail); try simp -dsimp -implicitDefEqProofs (maxSteps := 1000000) (disch := first | omega | (simp only [LN, List.append_assoc]; omega)) only [go_sem, Int.reduceToNat, Int.reducePow, Nat.reducePow, Int.reduceAdd, Int.reduceMul, Int.reduceSub, Int.reduceNeg, Nat.reduceAdd, Nat.reduceMul, Nat.reduceSub, Nat.reduceEqDiff, Nat.reduceLT, Nat.reduceLeDiff, List.append_assoc])
        | fail)
      all_goals (first | omega | trace_state)
set_option maxRecDepth 100000 in
set_option maxHeartbeats 4000000 in
theorem c32z (l : La) (hne : l.sl = []) : PCalls Tryd.prog 32 [eL l] (.v (.string (bs []))) := by
  refine pcalls_of (E := E) (fn := Tryd.f32) 53 [.tmp 2] rfl rfl rfl rfl (by decide) rfl ?_
  repeat' (first
    | (with_reducible first | refine r_seq ?_ | refine r_block ?_ | refine fork_not ?_ | refine fork_and ?_ | refine fork_or ?_ | refine chk_ok (by kernel_rfl) ?_)
    | ((with_reducible first | refine fork_dec ?_ ?_ | refine fork_eq ?_ ?_ | refine fork_ne ?_ ?_ | refine fork_intro ?_ ?_) <;> intro h <;> try (exfalso; first | omega | exact h rfl | (revert h; decide) | (cases h; done)))
    | ((with_reducible show False); omega)
    | ((first | (with_reducible first | refine r_exit ?_ | refine r_skip ?_ | refine r_cond ?_ | refine r_region ?_ | show VX _ _ _ _ _ _ _ | show vstep _ _ _ _ _ | show vskip _ _ _ | show withV _ _) | ((with_reducible show endA _ _ _ _ _ _ _); simp -implicitDefEqProofs only [endA])); simp -dsimp -implicitDefEqProofs (maxSteps := 1000000) (disch := first | omega | (simp only [LN, hne]; omega)) only [go_sem, Int.reduceToNat, Int.reducePow, Nat.reducePow, Int.reduceAdd, Int.reduceMul, Int.reduceSub, Int.reduceNeg, Nat.reduceAdd, Nat.reduceMul, Nat.reduceSub, Nat.reduceEqDiff, Nat.reduceLT, Nat.reduceLeDiff, hne])
    | ((first | (with_reducible refine r_ret ?_) | (with_reducible refine pick_viewG default (by first | omega | (simp only [LN, hne]; omega)) (by first | omega | (simp only [LN, hne]; omega)) ?_) | (with_reducible refine pick_own default (by first | omega | (simp only [LN, hne]; omega)) ?_) | (with_reducible refine And.intro (by first | decide | omega | assumption | (simp only [LN, hne]; omega)) ?_) | ((with_reducible show pickE _ _ _); first | refine pickE_intro _ ⟨by omega, by rfl⟩ ?_ | refine pickE_intro _ (by rfl) ?_) | fail); try simp -dsimp -implicitDefEqProofs (maxSteps := 1000000) (disch := first | omega | (simp only [LN, hne]; omega)) only [go_sem, Int.reduceToNat, Int.reducePow, Nat.reducePow, Int.reduceAdd, Int.reduceMul, Int.reduceSub, Int.reduceNeg, Nat.reduceAdd, Nat.reduceMul, Nat.reduceSub, Nat.reduceEqDiff, Nat.reduceLT, Nat.reduceLeDiff, hne])
    | fail)
  all_goals (first | omega | trace_state)
end Go.Proofs.YtlkffmmgcoiniaaDoor
