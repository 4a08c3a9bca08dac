/- Contracts of functions of this program, and the plain facts that they rest on. No conditions. -/
import Derived.Test.YtcnbngflehiphaaDoorD3
import Derived.Lib.ItoaLen
set_option linter.unusedSimpArgs false
set_option linter.unusedVariables false
namespace Go.Proofs.YtcnbngflehiphaaDoor
open Go Go.Ab
attribute [local irreducible] callK callF loopQ vstep vskip pickE hideP
attribute [local go_sem] eI
set_option maxRecDepth 100000
theorem numL_len (n : Nat) (h : n ≤ 9000000) : (numL n).length ≤ 20 ∧ 1 ≤ (numL n).length := by
 unfold numL
 rw [Lib.decDigits_length]
 refine ⟨Lib.nDigits_le20 n (by omega), ?_⟩
 rw [Lib.nDigits]; split <;> omega
theorem hexM_len (w : Nat) : ∀ j, (hexM w j).length = j
 | 0 => rfl
 | j + 1 => by rw [hexM, List.length_append, hexM_len w j]; rfl
theorem wordsM_len (l : List UInt8) (i : Nat) : ∀ k, (wordsM l i k).length = 17 * k
 | 0 => rfl
 | k + 1 => by simp only [wordsM, List.length_append, hexM_len, wordsM_len l i k, List.length_cons, List.length_nil]; omega
theorem rowM_len (l : List UInt8) (i : Nat) (h : i ≤ 9000000) : (rowM l i).length ≤ 200 := by
 have := numL_len i h
 unfold rowM
 split
 ·simp
 ·simp only [List.length_append, wordsM_len, List.length_cons, List.length_nil]; omega
theorem linesM_len (l : List UInt8) : ∀ i, i ≤ 9000000 → (linesM l i).length ≤ 200 * i
 | 0, _ => by simp [linesM]
 | i + 1, h => by
  have h1 := linesM_len l i (by omega)
  have h2 := rowM_len l i (by omega)
  rw [linesM, List.length_append]; omega
theorem headM_len (l : List UInt8) (h : l.length ≤ 9000000) : (headM l).length ≤ 30 ∧ 7 ≤ (headM l).length := by
 have := numL_len (l.length / 64) (by omega)
 simp only [headM, List.length_append, List.length_cons, List.length_nil]; omega
theorem nibE (w j : Nat) (hw : w < 18446744073709551616) (hj : j ≤ 15) : IntKind.u64.wrap ((BitVec.ofInt IntKind.u64.bits ((w : Int) / 2 ^ min (IntKind.u64.wrap (60 - 4 * (j : Int))).toNat 64) &&& BitVec.ofInt IntKind.u64.bits 15).toNat : Int) = ((w / 2 ^ (60 - 4 * j) % 16 : Nat) : Int) := by
 have e1 : min (IntKind.u64.wrap (60 - 4 * (j : Int))).toNat 64 = 60 - 4 * j := by rw [wr64]; omega
 have e2 : ((w : Int) / 2 ^ (60 - 4 * j)) = ((w / 2 ^ (60 - 4 * j) : Nat) : Int) := by rw [Int.natCast_ediv, Int.natCast_pow]; rfl
 have h1 : w / 2 ^ (60 - 4 * j) ≤ w := Nat.div_le_self _ _
 rw [e1, e2]
 generalize w / 2 ^ (60 - 4 * j) = x at *
 show IntKind.u64.wrap ((BitVec.ofInt 64 (x : Int) &&& BitVec.ofInt 64 ((15 : Nat) : Int)).toNat : Int) = _
 rw [BitVec.ofInt_natCast, BitVec.ofInt_natCast, BitVec.toNat_and, BitVec.toNat_ofNat, BitVec.toNat_ofNat, Nat.mod_eq_of_lt (by omega), Nat.mod_eq_of_lt (by decide), show (15 : Nat) = 2 ^ 4 - 1 from rfl, Nat.and_two_pow_sub_one_eq_mod, wr64]
 omega
theorem hexE (w s : Nat) : byteAt ⟨#[48, 49, 50, 51, 52, 53, 54, 55, 56, 57, 97, 98, 99, 100, 101, 102]⟩ (w / 2 ^ s % 16) = ((hexDig w s).toNat : Int) := rfl
theorem wordU_64 (l : List UInt8) (o : Nat) : wordU l o 8 < 18446744073709551616 := wordU_lt l o 8
theorem hexM_0 (w : Nat) : hexM w 0 = [] := rfl
theorem hexM_s (w j : Nat) : hexM w (j + 1) = hexM w j ++ [hexDig w (60 - 4 * j)] := rfl
theorem wordsM_0 (l : List UInt8) (i : Nat) : wordsM l i 0 = [] := rfl
theorem wordsM_s (l : List UInt8) (i k : Nat) : wordsM l i (k + 1) = wordsM l i k ++ [32] ++ hexM (wordU l (i * 64 + k * 8) 8) 16 := rfl
theorem linesM_0 (l : List UInt8) : linesM l 0 = [] := rfl
theorem headM_e (l : List UInt8) : headM l = [108, 105, 110, 101, 115, 32] ++ numL (l.length / 64) ++ [10] := rfl
theorem lines_z {l : List UInt8} {i : Nat} (hz : allZ (lineM l i) = true) : linesM l (i + 1) = linesM l i := by rw [linesM, rowM, if_pos hz, List.append_nil]
theorem lines_s {l : List UInt8} {i : Nat} (hz : ¬ allZ (lineM l i) = true) : linesM l (i + 1) = linesM l i ++ (numL i ++ [58] ++ wordsM l i 8 ++ [10]) := by rw [linesM, rowM, if_neg hz]
theorem text_e {l : List UInt8} {i : Nat} (h : i = l.length / 64) : headM l ++ linesM l i = textM l := by subst h; rfl
attribute [local irreducible] wordsM hexM linesM rowM headM wordU numL textM hexDig allZ
set_option maxRecDepth 100000 in
set_option maxHeartbeats 4000000 in
theorem c30 (l : List UInt8) (hl : l.length ≤ 300000) : PCalls Tryd.prog 30 [eI l] (.v (.string (bs (textM l)))) := by
 refine pcalls_of (E := E) (fn := Tryd.f30) 54 [.tmp 2] rfl rfl rfl rfl (by decide) rfl ?_
 have hn := numL_len (l.length / 64) (by omega)
 repeat' (first
  | (with_reducible first | refine r_seq ?_ | refine r_block ?_ | refine fork_not ?_ | refine fork_and ?_ | refine fork_or ?_ | refine chk_ok (by kernel_rfl) ?_)
  | ((with_reducible first | refine fork_dec ?_ ?_ | refine fork_eq ?_ ?_ | refine fork_ne ?_ ?_ | refine fork_intro ?_ ?_) <;> intro h)
  | ((with_reducible show False); omega)
  | ((first | (with_reducible first | refine r_exit ?_ | refine r_skip ?_ | refine r_cond ?_ | refine r_region ?_ | refine r_ret ?_ | show VX _ _ _ _ _ _ _ | show vstep _ _ _ _ _ | show vskip _ _ _ | show withV _ _) | ((with_reducible show endA _ _ _ _ _ _ _); simp -implicitDefEqProofs only [endA]) | (with_reducible first | refine pick_viewG default (by first | omega | (simp only [LN]; omega)) (by first | omega | (simp only [LN]; omega)) ?_ | refine pick_own default (by first | omega | (simp only [LN]; omega)) ?_ | refine And.intro (by first | decide | omega | assumption | (simp only [LN]; omega)) ?_) | ((with_reducible apply callK_pure); (first | exact c15 l (by omega) | exact c54 (l.length / 64) (by omega) | fail)) | ((with_reducible apply callF_lend); (first | exact c15 l (by omega) | exact c54 (l.length / 64) (by omega) | fail); rfl) | ((with_reducible apply callF_go); (first | exact c15 l (by omega) | exact c54 (l.length / 64) (by omega) | fail)) | (with_reducible first | apply callK_lent | apply callF_lent | apply hideP_own) | ((with_reducible apply callA_go); (first | exact d53f [108, 105, 110, 101, 115, 32] (by decide) (by decide) | exact d53 _ _ _ (by (try simp only [List.length_append, List.length_cons, List.length_nil]) <;> omega) (by (try simp only [List.length_append, List.length_cons, List.length_nil]) <;> omega) (by (try simp only [List.length_append, List.length_cons, List.length_nil]) <;> omega) | exact d55 _ 10 10 rfl _ (by (try simp only [List.length_append, List.length_cons, List.length_nil]) <;> omega) (by (try simp only [List.length_append, List.length_cons, List.length_nil]) <;> omega) (by (try simp only [List.length_append, List.length_cons, List.length_nil]) <;> omega) | fail)) | ((with_reducible show pickE _ _ _); first | refine pickE_intro _ ⟨by omega, by rfl⟩ ?_ | refine pickE_intro _ (by rfl) ?_) | fail); try simp -dsimp -implicitDefEqProofs (maxSteps := 1000000) (disch := first | omega | (simp only [LN]; omega)) only [go_sem])
  | fail)
 refine r_loopA (α := Nat) [1, 3, 15] (fun i b => [(16, aI i)]) (fun i b => [(3, .bld 91 (.sl b 1 0 (headM l ++ linesM l i).length))]) (fun i => [.byt 5 (headM l ++ linesM l i)]) (fun i => i ≤ l.length / 64) (fun i => l.length / 64 - i) (0) ?h0_1 ?hs0_1 ?I_1 ?hI_1 ?round_1
 case hI_1 => intro x; (simp -dsimp -implicitDefEqProofs (maxSteps := 1000000) (disch := first | omega | (simp only [LN]; omega)) only [go_sem]) <;> exact rfl
 case hs0_1 => refine wk_auto ?_; (simp -dsimp -implicitDefEqProofs (maxSteps := 1000000) (disch := first | omega | (simp only [LN, headM_e, linesM_0, List.append_nil, List.append_assoc, List.cons_append, List.nil_append, List.length_append, List.length_cons, List.length_nil]; omega)) only [go_sem, headM_e, linesM_0, List.append_nil, List.append_assoc, List.cons_append, List.nil_append, List.length_append, List.length_cons, List.length_nil]) <;> (try omega)
 case h0_1 => exact Nat.zero_le _
 case round_1 =>
  intro i h1
  have hh := headM_len l (by omega)
  have hi := linesM_len l i (by omega)
  have hni := numL_len i (by omega)
  repeat' (first
   | (with_reducible first | refine r_seq ?_ | refine r_block ?_ | refine fork_not ?_ | refine fork_and ?_ | refine fork_or ?_ | refine chk_ok (by kernel_rfl) ?_)
   | ((with_reducible first | refine fork_dec ?_ ?_ | refine fork_eq ?_ ?_ | refine fork_ne ?_ ?_ | refine fork_intro ?_ ?_) <;> intro h)
   | ((with_reducible show False); omega)
   | ((first | (with_reducible first | refine r_exit ?_ | refine r_skip ?_ | refine r_cond ?_ | refine r_region ?_ | refine r_ret ?_ | show VX _ _ _ _ _ _ _ | show vstep _ _ _ _ _ | show vskip _ _ _ | show withV _ _) | ((with_reducible show endA _ _ _ _ _ _ _); simp -implicitDefEqProofs only [endA]) | (with_reducible first | refine pick_viewG default (by first | omega | (simp only [LN]; omega)) (by first | omega | (simp only [LN]; omega)) ?_ | refine pick_own default (by first | omega | (simp only [LN]; omega)) ?_ | refine And.intro (by first | decide | omega | assumption | (simp only [LN]; omega)) ?_) | ((with_reducible apply callK_pure); (first | exact c49 l i (by omega) (by omega) | exact c56 ((l.drop (i * 64)).take 64) (by simp; omega) | exact c54 i (by omega) | fail)) | ((with_reducible apply callF_lend); (first | exact c49 l i (by omega) (by omega) | exact c56 ((l.drop (i * 64)).take 64) (by simp; omega) | exact c54 i (by omega) | fail); rfl) | ((with_reducible apply callF_go); (first | exact c49 l i (by omega) (by omega) | exact c56 ((l.drop (i * 64)).take 64) (by simp; omega) | exact c54 i (by omega) | fail)) | (with_reducible first | apply callK_lent | apply callF_lent | apply hideP_own) | ((with_reducible apply callA_go); (first | exact d53 _ _ _ (by (try simp only [List.length_append, List.length_cons, List.length_nil]) <;> omega) (by (try simp only [List.length_append, List.length_cons, List.length_nil]) <;> omega) (by (try simp only [List.length_append, List.length_cons, List.length_nil]) <;> omega) | exact d55 _ 58 58 rfl _ (by (try simp only [List.length_append, List.length_cons, List.length_nil]) <;> omega) (by (try simp only [List.length_append, List.length_cons, List.length_nil]) <;> omega) (by (try simp only [List.length_append, List.length_cons, List.length_nil]) <;> omega) | exact d57 _ _ (by (try simp only [List.length_append, List.length_cons, List.length_nil]) <;> omega) (by (try simp only [List.length_append, List.length_cons, List.length_nil]) <;> omega) | fail)) | ((with_reducible show pickE _ _ _); first | refine pickE_intro _ ⟨by omega, by rfl⟩ ?_ | refine pickE_intro _ (by rfl) ?_) | fail); try simp -dsimp -implicitDefEqProofs (maxSteps := 1000000) (disch := first | omega | (simp only [LN]; omega)) only [go_sem])
   | fail)
  ·have hz : allZ (lineM l i) = true := (trim_nil _).1 (of_decide_eq_true h)
   have e := lines_z hz
   (refine loopQ_next (i + 1) ?_ ?_ ?_; (omega); (show _ < _; omega); (simp -dsimp -implicitDefEqProofs (maxSteps := 1000000) (disch := first | omega | (simp only [LN, e]; omega)) only [go_sem, e]; try trivial))
  ·have hz : ¬ allZ (lineM l i) = true := fun hz => of_decide_eq_false h ((trim_nil _).2 hz)
   have e := lines_s hz
   refine r_loopA (α := Nat) [1, 3, 4, 15, 16] (fun k b => [(28, aI k)]) (fun k b => [(3, .bld 91 (.sl b 1 0 (headM l ++ linesM l i ++ numL i ++ [58] ++ wordsM l i k).length))]) (fun k => [.byt 5 (headM l ++ linesM l i ++ numL i ++ [58] ++ wordsM l i k)]) (fun k => k ≤ 8) (fun k => 8 - k) (0) ?h0_2 ?hs0_2 ?I_2 ?hI_2 ?round_2
   case hI_2 => intro x; (simp -dsimp -implicitDefEqProofs (maxSteps := 1000000) (disch := first | omega | (simp only [LN]; omega)) only [go_sem]) <;> exact rfl
   case hs0_2 => refine wk_auto ?_; (simp -dsimp -implicitDefEqProofs (maxSteps := 1000000) (disch := first | omega | (simp only [LN, wordsM_0, List.append_nil, List.length_append, List.length_cons, List.length_nil]; omega)) only [go_sem, wordsM_0, List.append_nil, List.length_append, List.length_cons, List.length_nil]) <;> (try omega)
   case h0_2 => exact Nat.zero_le _
   case round_2 =>
    intro k hk
    repeat' (first
     | (with_reducible first | refine r_seq ?_ | refine r_block ?_ | refine fork_not ?_ | refine fork_and ?_ | refine fork_or ?_ | refine chk_ok (by kernel_rfl) ?_)
     | ((with_reducible first | refine fork_dec ?_ ?_ | refine fork_eq ?_ ?_ | refine fork_ne ?_ ?_ | refine fork_intro ?_ ?_) <;> intro h)
     | ((with_reducible show False); omega)
     | ((first | (with_reducible first | refine r_exit ?_ | refine r_skip ?_ | refine r_cond ?_ | refine r_region ?_ | refine r_ret ?_ | show VX _ _ _ _ _ _ _ | show vstep _ _ _ _ _ | show vskip _ _ _ | show withV _ _) | ((with_reducible show endA _ _ _ _ _ _ _); simp -implicitDefEqProofs only [endA]) | (with_reducible first | refine pick_viewG default (by first | omega | (simp only [LN]; omega)) (by first | omega | (simp only [LN]; omega)) ?_ | refine pick_own default (by first | omega | (simp only [LN]; omega)) ?_ | refine And.intro (by first | decide | omega | assumption | (simp only [LN]; omega)) ?_) | ((with_reducible apply callK_pure); (exact c51 l (i * 64 + k * 8) (by omega) (by omega))) | ((with_reducible apply callF_lend); (exact c51 l (i * 64 + k * 8) (by omega) (by omega)); rfl) | ((with_reducible apply callF_go); (exact c51 l (i * 64 + k * 8) (by omega) (by omega))) | (with_reducible first | apply callK_lent | apply callF_lent | apply hideP_own) | ((with_reducible apply callA_go); (first | exact d55 _ 32 32 rfl _ (by (try simp only [List.length_append, List.length_cons, List.length_nil, hexM_len, wordsM_len]) <;> omega) (by (try simp only [List.length_append, List.length_cons, List.length_nil, hexM_len, wordsM_len]) <;> omega) (by (try simp only [List.length_append, List.length_cons, List.length_nil, hexM_len, wordsM_len]) <;> omega) | exact d55 _ 10 10 rfl _ (by (try simp only [List.length_append, List.length_cons, List.length_nil, hexM_len, wordsM_len]) <;> omega) (by (try simp only [List.length_append, List.length_cons, List.length_nil, hexM_len, wordsM_len]) <;> omega) (by (try simp only [List.length_append, List.length_cons, List.length_nil, hexM_len, wordsM_len]) <;> omega) | fail)) | ((with_reducible show pickE _ _ _); first | refine pickE_intro _ ⟨by omega, by rfl⟩ ?_ | refine pickE_intro _ (by rfl) ?_) | fail); try simp -dsimp -implicitDefEqProofs (maxSteps := 1000000) (disch := first | omega | (simp only [LN]; omega)) only [go_sem])
     | fail)
    ·refine r_loopA (α := Nat) [1, 3, 4, 6, 15, 16, 28] (fun j b => [(7, aI (60 - 4 * j))]) (fun j b => [(3, .bld 91 (.sl b 1 0 (headM l ++ linesM l i ++ numL i ++ [58] ++ wordsM l i k ++ [32] ++ hexM (wordU l (i * 64 + k * 8) 8) j).length))]) (fun j => [.byt 5 (headM l ++ linesM l i ++ numL i ++ [58] ++ wordsM l i k ++ [32] ++ hexM (wordU l (i * 64 + k * 8) 8) j)]) (fun j => j ≤ 16) (fun j => 16 - j) (0) ?h0_3 ?hs0_3 ?I_3 ?hI_3 ?round_3
     case hI_3 => intro x; (simp -dsimp -implicitDefEqProofs (maxSteps := 1000000) (disch := first | omega | (simp only [LN]; omega)) only [go_sem]) <;> exact rfl
     case hs0_3 => refine wk_auto ?_; (simp -dsimp -implicitDefEqProofs (maxSteps := 1000000) (disch := first | omega | (simp only [LN, hexM_0, List.append_nil, List.length_append, List.length_cons, List.length_nil]; omega)) only [go_sem, hexM_0, List.append_nil, List.length_append, List.length_cons, List.length_nil]) <;> (try omega)
     case h0_3 => exact Nat.zero_le _
     case round_3 =>
      intro j hj
      have hw := wordU_64 l (i * 64 + k * 8)
      repeat' (first
       | (with_reducible first | refine r_seq ?_ | refine r_block ?_ | refine fork_not ?_ | refine fork_and ?_ | refine fork_or ?_ | refine chk_ok (by kernel_rfl) ?_)
       | ((with_reducible first | refine fork_dec ?_ ?_ | refine fork_eq ?_ ?_ | refine fork_ne ?_ ?_ | refine fork_intro ?_ ?_) <;> intro h)
       | ((with_reducible show False); omega)
       | ((first | (with_reducible first | refine r_exit ?_ | refine r_skip ?_ | refine r_cond ?_ | refine r_region ?_ | refine r_ret ?_ | show VX _ _ _ _ _ _ _ | show vstep _ _ _ _ _ | show vskip _ _ _ | show withV _ _) | ((with_reducible show endA _ _ _ _ _ _ _); simp -implicitDefEqProofs only [endA]) | (with_reducible first | refine pick_viewG default (by first | omega | (simp only [LN, nibE _ j hw]; omega)) (by first | omega | (simp only [LN, nibE _ j hw]; omega)) ?_ | refine pick_own default (by first | omega | (simp only [LN, nibE _ j hw]; omega)) ?_ | refine And.intro (by first | decide | omega | assumption | (simp only [LN, nibE _ j hw]; omega)) ?_) | (with_reducible first | apply callK_lent | apply callF_lent | apply hideP_own) | ((with_reducible apply callA_go); (first | exact d55 _ _ (hexDig (wordU l (i * 64 + k * 8) 8) (60 - 4 * j)) (hexE _ _) _ (by (try simp only [List.length_append, List.length_cons, List.length_nil, hexM_len, wordsM_len]) <;> omega) (by (try simp only [List.length_append, List.length_cons, List.length_nil, hexM_len, wordsM_len]) <;> omega) (by (try simp only [List.length_append, List.length_cons, List.length_nil, hexM_len, wordsM_len]) <;> omega) | fail)) | ((with_reducible show pickE _ _ _); first | refine pickE_intro _ ⟨by omega, by rfl⟩ ?_ | refine pickE_intro _ (by rfl) ?_) | fail); try simp -dsimp -implicitDefEqProofs (maxSteps := 1000000) (disch := first | omega | (simp only [LN, nibE _ j hw]; omega)) only [go_sem, nibE _ j hw])
       | fail)
      ·(refine loopQ_next (j + 1) ?_ ?_ ?_; (omega); (show _ < _; omega); (simp -dsimp -implicitDefEqProofs (maxSteps := 1000000) (disch := first | omega | (simp only [LN, hexM_s, List.length_append, List.length_cons, List.length_nil, List.append_assoc]; omega)) only [go_sem, hexM_s, List.length_append, List.length_cons, List.length_nil, List.append_assoc]; try trivial))
       all_goals (refine ⟨by omega, ?_⟩; congr 1; omega)
      ·have hj16 : j = 16 := by omega
       (refine loopQ_next (k + 1) ?_ ?_ ?_; (omega); (show _ < _; omega); (simp -dsimp -implicitDefEqProofs (maxSteps := 1000000) (disch := first | omega | (simp only [LN, wordsM_s, hj16, List.length_append, List.length_cons, List.length_nil, List.append_assoc]; omega)) only [go_sem, wordsM_s, hj16, List.length_append, List.length_cons, List.length_nil, List.append_assoc]; try trivial))
       all_goals (first | omega)
    ·have hk8 : k = 8 := by omega
     (refine loopQ_next (i + 1) ?_ ?_ ?_; (omega); (show _ < _; omega); (simp -dsimp -implicitDefEqProofs (maxSteps := 1000000) (disch := first | omega | (simp only [LN, e, hk8, List.length_append, List.length_cons, List.length_nil, List.append_assoc]; omega)) only [go_sem, e, hk8, List.length_append, List.length_cons, List.length_nil, List.append_assoc]; try trivial))
     all_goals (first | omega | (refine ⟨?_, trivial⟩; omega))
  ·rw [text_e (by omega)]
end Go.Proofs.YtcnbngflehiphaaDoor