/- Contracts of functions of this program, and the plain facts that they rest on. No conditions. -/
import Derived.Test.YtckhjklcfagkoaaGreatDoorScDQ
import Derived.Test.YtckhjklcfagkoaaGreatDoorScEQ
set_option linter.unusedSimpArgs false
set_option linter.unusedVariables false
namespace Go.Proofs.YtckhjklcfagkoaaGreatDoor
open Go Go.Ab
attribute [local irreducible] callK callF loopQ vstep vskip pickE hideP
open Go.RowKit
set_option maxRecDepth 100000
attribute [local go_sem] eE rE eT eU bs_inj ext_bs byteAt_bs
attribute [local irreducible] numL
def argT (l : List Int) : Nat → List UInt8
 | 0 => []
 | j + 1 => argT l j ++ 32 :: numL (l.getD j default)
theorem argT_s (l : List Int) (j : Nat) : argT l (j + 1) = argT l j ++ 32 :: numL (l.getD j default) := rfl
theorem argT_len {l : List Int} (hr : ∀ j, 0 ≤ l.getD j default ∧ l.getD j default ≤ 18446744073709551615) : ∀ j, (argT l j).length ≤ 22 * j
 | 0 => by simp [argT]
 | j + 1 => by
  have h1 := argT_len hr j
  have h2 := hr j
  have h3 := numL_len (n := l.getD j default) (by omega)
  rw [argT_s, List.length_append, List.length_cons]; omega
def decP (nm : List UInt8) (ns : List Int) (j : Nat) : List UInt8 := nm ++ argT ns j
theorem decP_0 (nm : List UInt8) (ns : List Int) : decP nm ns 0 = nm := by simp [decP, argT]
theorem decP_s (nm : List UInt8) (ns : List Int) (j : Nat) : decP nm ns (j + 1) = decP nm ns j ++ 32 :: numL (ns.getD j default) := by simp [decP, argT_s]
theorem decP_len {nm : List UInt8} {ns : List Int} (hn : nm.length ≤ 100) (hr : ∀ j, 0 ≤ ns.getD j default ∧ ns.getD j default ≤ 18446744073709551615) (j : Nat) (hj : j ≤ 10) : (decP nm ns j).length ≤ 1000 := by
 have h1 := argT_len hr j
 rw [decP, List.length_append]; omega
theorem lAppS (q : List UInt8) (n : Int) (h : 0 ≤ n ∧ n ≤ 18446744073709551615) (hp : q.length ≤ 1000) : ACalls Tryz.prog 108 [.sl 0 1 0 (q.length + 1), .p (.v (.int .u64 n)), .p (.v (.int .i64 10))] [.arr 1 (q.map eB ++ [.v (.int .u8 32)])] (.sl 1 1 0 (q ++ 32 :: numL n).length) [.dead, .arr 1 ((q ++ 32 :: numL n).map eB)] := by
 have := lApp (q ++ [32]) n h (by simp; omega)
 rw [List.append_assoc, List.map_append, List.length_append] at this
 exact this
attribute [local irreducible] argT decP
set_option maxRecDepth 100000 in
set_option maxHeartbeats 4000000 in
theorem sDec (nm : List UInt8) (hn : nm.length ≤ 100) (ns : List Int) (hl : ns.length ≤ 10) (hr : ∀ j, 0 ≤ ns.getD j default ∧ ns.getD j default ≤ 18446744073709551615) : PCalls Tryz.prog 94 [.v (.string (bs nm)), .view 1 (ns.map eU)] (.v (.string (bs (decP nm ns ns.length)))) := by
 refine pcalls_facts ⟨_, rfl, rfl, by decide⟩ fun hf => ?_
 simp only [go_sem, big] at hf
 refine pcalls_of (E := E) (fn := Tryz.f94) 25 [.tmp 4] rfl rfl rfl rfl (by decide) rfl ?_
 repeat' (first
  | (with_reducible first | refine r_seq ?_ | refine r_block ?_ | refine fork_not ?_ | refine fork_and ?_ | refine fork_or ?_ | refine chk_ok (by kernel_rfl) ?_)
  | ((with_reducible first | refine fork_dec ?_ ?_ | refine fork_eq ?_ ?_ | refine fork_ne ?_ ?_ | refine fork_intro ?_ ?_) <;> intro h)
  | ((with_reducible show False); omega)
  | ((first | (with_reducible first | refine r_exit ?_ | refine r_skip ?_ | refine r_cond ?_ | refine r_region ?_ | refine r_ret ?_ | show VX _ _ _ _ _ _ _ | show vstep _ _ _ _ _ | show vskip _ _ _ | show withV _ _) | ((with_reducible show endA _ _ _ _ _ _ _); simp -implicitDefEqProofs only [endA]) | (with_reducible first | refine pick_viewG default (by first | omega | (simp only [LN]; omega)) (by first | omega | (simp only [LN]; omega)) ?_ | refine pick_own default (by first | omega | (simp only [LN]; omega)) ?_ | refine And.intro (by first | decide | omega | assumption | (simp only [LN]; omega)) ?_) | ((with_reducible show pickE _ _ _); first | refine pickE_intro _ ⟨by omega, by rfl⟩ ?_ | refine pickE_intro _ (by rfl) ?_) | fail); try simp -dsimp -implicitDefEqProofs (maxSteps := 1000000) (disch := first | omega | (simp only [LN]; omega)) only [go_sem])
  | fail)
 refine r_loopA (α := Nat) [10, 11] (fun j b => [(5, .sl b 1 0 (decP nm ns j).length), (12, aI j)]) (fun j b => []) (fun j => [.arr 1 ((decP nm ns j).map eB)]) (fun j => j ≤ ns.length) (fun j => ns.length - j) (0) ?h0_1 ?hs0_1 ?I_1 ?hI_1 ?round_1
 case hI_1 => intro x; (simp -dsimp -implicitDefEqProofs (maxSteps := 1000000) (disch := first | omega | (simp only [LN]; omega)) only [go_sem]) <;> exact rfl
 case hs0_1 => refine wk_auto ?_; (simp -dsimp -implicitDefEqProofs (maxSteps := 1000000) (disch := first | omega | (simp only [LN, decP_0]; omega)) only [go_sem, decP_0]) <;> (try omega)
 case h0_1 => exact Nat.zero_le _
 case round_1 =>
  intro j hj
  have h2 := hr j
  have h3 := numL_len (n := ns.getD j default) (by omega)
  have h4 := decP_len hn hr j (by omega)
  by_cases h : j < ns.length
  ·have hs := decP_s nm ns j
   have ka := lAppS (decP nm ns j) (ns.getD j default) h2 h4
   repeat' (first
    | (with_reducible first | refine r_seq ?_ | refine r_block ?_ | refine fork_not ?_ | refine fork_and ?_ | refine fork_or ?_ | refine chk_ok (by kernel_rfl) ?_)
    | ((with_reducible first | refine fork_dec ?_ ?_ | refine fork_eq ?_ ?_ | refine fork_ne ?_ ?_ | refine fork_intro ?_ ?_) <;> intro h <;> try (exfalso; first | omega | exact h rfl | (revert h; decide) | (cases h; done)))
    | ((with_reducible show False); omega)
    | ((first | (with_reducible first | refine r_exit ?_ | refine r_skip ?_ | refine r_cond ?_ | refine r_region ?_ | refine r_ret ?_ | show VX _ _ _ _ _ _ _ | show vstep _ _ _ _ _ | show vskip _ _ _ | show withV _ _) | ((with_reducible show endA _ _ _ _ _ _ _); simp -implicitDefEqProofs only [endA]) | (with_reducible first | refine pick_viewG default (by first | omega | (simp only [LN]; omega)) (by first | omega | (simp only [LN]; omega)) ?_ | refine pick_own default (by first | omega | (simp only [LN]; omega)) ?_ | refine And.intro (by first | decide | omega | assumption | (simp only [LN]; omega)) ?_) | (with_reducible first | apply callK_lent | apply callF_lent | apply hideP_own) | ((with_reducible apply callA_go); (first | exact ka | fail)) | ((with_reducible show pickE _ _ _); first | refine pickE_intro _ ⟨by omega, by rfl⟩ ?_ | refine pickE_intro _ (by rfl) ?_) | fail); try simp -dsimp -implicitDefEqProofs (maxSteps := 1000000) (disch := first | omega | (simp only [LN]; omega)) only [go_sem])
    | fail)
   all_goals first | omega | (refine loopQ_next (j + 1) ?_ ?_ ?_; (omega); (show _ < _; omega); (simp -dsimp -implicitDefEqProofs (maxSteps := 1000000) (disch := first | omega | (simp only [LN, hs, List.length_append, List.length_cons]; omega)) only [go_sem, hs, List.length_append, List.length_cons]; try trivial))
  ·obtain rfl : j = ns.length := by omega
   repeat' (first
    | (with_reducible first | refine r_seq ?_ | refine r_block ?_ | refine fork_not ?_ | refine fork_and ?_ | refine fork_or ?_ | refine chk_ok (by kernel_rfl) ?_)
    | ((with_reducible first | refine fork_dec ?_ ?_ | refine fork_eq ?_ ?_ | refine fork_ne ?_ ?_ | refine fork_intro ?_ ?_) <;> intro h <;> try (exfalso; first | omega | exact h rfl | (revert h; decide) | (cases h; done)))
    | ((with_reducible show False); omega)
    | ((first | (with_reducible first | refine r_exit ?_ | refine r_skip ?_ | refine r_cond ?_ | refine r_region ?_ | refine r_ret ?_ | show VX _ _ _ _ _ _ _ | show vstep _ _ _ _ _ | show vskip _ _ _ | show withV _ _) | ((with_reducible show endA _ _ _ _ _ _ _); simp -implicitDefEqProofs only [endA]) | (with_reducible first | refine pick_viewG default (by first | omega | (simp only [LN]; omega)) (by first | omega | (simp only [LN]; omega)) ?_ | refine pick_own default (by first | omega | (simp only [LN]; omega)) ?_ | refine And.intro (by first | decide | omega | assumption | (simp only [LN]; omega)) ?_) | ((with_reducible show pickE _ _ _); first | refine pickE_intro _ ⟨by omega, by rfl⟩ ?_ | refine pickE_intro _ (by rfl) ?_) | fail); try simp -dsimp -implicitDefEqProofs (maxSteps := 1000000) (disch := first | omega | (simp only [LN]; omega)) only [go_sem])
    | fail)
   all_goals first | rfl | omega
theorem and15 {x : Nat} (h : x < 256) : (BitVec.ofInt 8 x &&& BitVec.ofInt 8 15).toNat = x % 16 := by
 rw [BitVec.toNat_and, BitVec.ofInt_natCast, BitVec.toNat_ofNat, show (BitVec.ofInt 8 15).toNat = 2 ^ 4 - 1 by decide, Nat.and_two_pow_sub_one_eq_mod]
 omega
def crP (c : List UInt8) (i : Nat) : List UInt8 := [99, 114, 97, 115, 104, 32] ++ hexL (c.take i)
theorem crP_len (c : List UInt8) (i : Nat) (h : i ≤ c.length) : (crP c i).length = 6 + 2 * i := by
 simp [crP, hexL_len]; omega
theorem crP_0 (c : List UInt8) : (crP c 0).map eB = [.v (.int .u8 99), .v (.int .u8 114), .v (.int .u8 97), .v (.int .u8 115), .v (.int .u8 104), .v (.int .u8 32)] := rfl
theorem crP_tx {x : Ev} (h : x.k = 7) (h0 : ¬ x.ch.length = 0) : txE x = crP x.ch x.ch.length := by
 rw [crP, List.take_length]
 simp [txE, wsE, joinL, h, chL_e h0]
theorem crP_s {c : List UInt8} {i : Nat} (h : i < c.length) : crP c (i + 1) = crP c i ++ [hexS.getD ((c.getD i default).toNat / 16) 0, hexS.getD ((c.getD i default).toNat % 16) 0] := by unfold crP; rw [hexL_take h, List.append_assoc]
attribute [local irreducible] crP
set_option maxRecDepth 100000 in
set_option maxHeartbeats 4000000 in
theorem sText (x : Ev) (R : Rng x) (hc : x.ch.length ≤ 1000000) : PCalls Tryz.prog 72 [eE x] (.v (.string (bs (txV x)))) := by
 refine pcalls_of (E := E) (fn := Tryz.f72) 88 [.tmp 2] rfl rfl rfl rfl (by decide) rfl ?_
 have kv := sValid x hc
 cases hv : okE x with
 | false =>
  rw [hv] at kv
  have e : txV x = [] := by unfold txV; rw [hv]; rfl
  repeat' (first
   | (with_reducible first | refine r_seq ?_ | refine r_block ?_ | refine fork_not ?_ | refine fork_and ?_ | refine fork_or ?_ | refine chk_ok (by kernel_rfl) ?_)
   | ((with_reducible first | refine fork_dec ?_ ?_ | refine fork_eq ?_ ?_ | refine fork_ne ?_ ?_ | refine fork_intro ?_ ?_) <;> intro h <;> try (exfalso; first | omega | exact h rfl | (revert h; decide) | (cases h; done)))
   | ((with_reducible show False); omega)
   | ((first | (with_reducible first | refine r_exit ?_ | refine r_skip ?_ | refine r_cond ?_ | refine r_region ?_ | refine r_ret ?_ | show VX _ _ _ _ _ _ _ | show vstep _ _ _ _ _ | show vskip _ _ _ | show withV _ _) | ((with_reducible show endA _ _ _ _ _ _ _); simp -implicitDefEqProofs only [endA]) | (with_reducible first | refine pick_viewG default (by first | omega | (simp only [LN, e]; omega)) (by first | omega | (simp only [LN, e]; omega)) ?_ | refine pick_own default (by first | omega | (simp only [LN, e]; omega)) ?_ | refine And.intro (by first | decide | omega | assumption | (simp only [LN, e]; omega)) ?_) | ((with_reducible apply callK_pure); (exact kv)) | ((with_reducible apply callF_lend); (exact kv); rfl) | ((with_reducible apply callF_go); (exact kv)) | ((with_reducible show pickE _ _ _); first | refine pickE_intro _ ⟨by omega, by rfl⟩ ?_ | refine pickE_intro _ (by rfl) ?_) | fail); try simp -dsimp -implicitDefEqProofs (maxSteps := 1000000) (disch := first | omega | (simp only [LN, e]; omega)) only [go_sem, e])
   | fail)
  all_goals first | rfl
 | true =>
  rw [hv] at kv
  have hk := okE_t hv
  have e : txV x = txE x := by unfold txV; rw [hv]; rfl
  rw [e]
  have hro := R.o
  have hrv := R.v
  have hrw := R.w
  have hks : x.k = 1 ∧ (0 ≤ x.th ∧ x.th ≤ 7) ∨ x.k = 2 ∧ (0 ≤ x.th ∧ x.th ≤ 7) ∨ x.k = 3 ∧ (0 ≤ x.th ∧ x.th ≤ 7) ∨ x.k = 4 ∧ (0 ≤ x.th ∧ x.th ≤ 7) ∨ x.k = 5 ∧ (0 ≤ x.ln ∧ x.ln ≤ 4095) ∧ (0 ≤ x.n ∧ x.n ≤ 2147483647) ∨ x.k = 6 ∧ (-1 ≤ x.n ∧ x.n ≤ 2147483647) ∨ x.k = 7 ∧ x.ch.length ≤ 512 := by unfold okK at hk; omega
  rcases hks with ⟨h, h2⟩ | ⟨h, h2⟩ | ⟨h, h2⟩ | ⟨h, h2⟩ | ⟨h, h2, h3⟩ | ⟨h, h2⟩ | ⟨h, h2⟩
  ·have e1 : IntKind.u64.wrap x.th = x.th := by rw [wr64]; omega
   have kd := sDec [115, 116, 111, 114, 101] (by simp) [x.th, x.o, x.v] (by simp) (by intro j; match j with | 0 => exact ⟨h2.1, by show x.th ≤ _; omega⟩ | 1 => exact hro | 2 => exact hrv | j + 3 => exact (show (0 : Int) ≤ 0 ∧ (0 : Int) ≤ 18446744073709551615 from ⟨by decide, by decide⟩))
   repeat' (first
    | (with_reducible first | refine r_seq ?_ | refine r_block ?_ | refine fork_not ?_ | refine fork_and ?_ | refine fork_or ?_ | refine chk_ok (by kernel_rfl) ?_)
    | ((with_reducible first | refine fork_dec ?_ ?_ | refine fork_eq ?_ ?_ | refine fork_ne ?_ ?_ | refine fork_intro ?_ ?_) <;> intro h <;> try (exfalso; first | omega | exact h rfl | (revert h; decide) | (cases h; done)))
    | ((with_reducible show False); omega)
    | ((first | (with_reducible first | refine r_exit ?_ | refine r_skip ?_ | refine r_cond ?_ | refine r_region ?_ | refine r_ret ?_ | show VX _ _ _ _ _ _ _ | show vstep _ _ _ _ _ | show vskip _ _ _ | show withV _ _) | ((with_reducible show endA _ _ _ _ _ _ _); simp -implicitDefEqProofs only [endA]) | (with_reducible first | refine pick_viewG default (by first | omega | (simp only [LN, e1]; omega)) (by first | omega | (simp only [LN, e1]; omega)) ?_ | refine pick_own default (by first | omega | (simp only [LN, e1]; omega)) ?_ | refine And.intro (by first | decide | omega | assumption | (simp only [LN, e1]; omega)) ?_) | ((with_reducible apply callK_pure); (first | exact kv | exact kd | fail)) | ((with_reducible apply callF_lend); (first | exact kv | exact kd | fail); rfl) | ((with_reducible apply callF_go); (first | exact kv | exact kd | fail)) | ((with_reducible show pickE _ _ _); first | refine pickE_intro _ ⟨by omega, by rfl⟩ ?_ | refine pickE_intro _ (by rfl) ?_) | fail); try simp -dsimp -implicitDefEqProofs (maxSteps := 1000000) (disch := first | omega | (simp only [LN, e1]; omega)) only [go_sem, e1])
    | fail)
   all_goals first | omega | (simp [txE, wsE, joinL, h, decP_s, decP_0]; done)
  ·have e1 : IntKind.u64.wrap x.th = x.th := by rw [wr64]; omega
   have kd := sDec [99, 97, 115] (by simp) [x.th, x.o, x.w, x.v] (by simp) (by intro j; match j with | 0 => exact ⟨h2.1, by show x.th ≤ _; omega⟩ | 1 => exact hro | 2 => exact hrw | 3 => exact hrv | j + 4 => exact (show (0 : Int) ≤ 0 ∧ (0 : Int) ≤ 18446744073709551615 from ⟨by decide, by decide⟩))
   repeat' (first
    | (with_reducible first | refine r_seq ?_ | refine r_block ?_ | refine fork_not ?_ | refine fork_and ?_ | refine fork_or ?_ | refine chk_ok (by kernel_rfl) ?_)
    | ((with_reducible first | refine fork_dec ?_ ?_ | refine fork_eq ?_ ?_ | refine fork_ne ?_ ?_ | refine fork_intro ?_ ?_) <;> intro h <;> try (exfalso; first | omega | exact h rfl | (revert h; decide) | (cases h; done)))
    | ((with_reducible show False); omega)
    | ((first | (with_reducible first | refine r_exit ?_ | refine r_skip ?_ | refine r_cond ?_ | refine r_region ?_ | refine r_ret ?_ | show VX _ _ _ _ _ _ _ | show vstep _ _ _ _ _ | show vskip _ _ _ | show withV _ _) | ((with_reducible show endA _ _ _ _ _ _ _); simp -implicitDefEqProofs only [endA]) | (with_reducible first | refine pick_viewG default (by first | omega | (simp only [LN, e1]; omega)) (by first | omega | (simp only [LN, e1]; omega)) ?_ | refine pick_own default (by first | omega | (simp only [LN, e1]; omega)) ?_ | refine And.intro (by first | decide | omega | assumption | (simp only [LN, e1]; omega)) ?_) | ((with_reducible apply callK_pure); (first | exact kv | exact kd | fail)) | ((with_reducible apply callF_lend); (first | exact kv | exact kd | fail); rfl) | ((with_reducible apply callF_go); (first | exact kv | exact kd | fail)) | ((with_reducible show pickE _ _ _); first | refine pickE_intro _ ⟨by omega, by rfl⟩ ?_ | refine pickE_intro _ (by rfl) ?_) | fail); try simp -dsimp -implicitDefEqProofs (maxSteps := 1000000) (disch := first | omega | (simp only [LN, e1]; omega)) only [go_sem, e1])
    | fail)
   all_goals first | omega | (simp [txE, wsE, joinL, *, decP_s, decP_0]; done)
  ·have e1 : IntKind.u64.wrap x.th = x.th := by rw [wr64]; omega
   have kd := sDec [102, 108, 117, 115, 104] (by simp) [x.th, x.o] (by simp) (by intro j; match j with | 0 => exact ⟨h2.1, by show x.th ≤ _; omega⟩ | 1 => exact hro | j + 2 => exact (show (0 : Int) ≤ 0 ∧ (0 : Int) ≤ 18446744073709551615 from ⟨by decide, by decide⟩))
   repeat' (first
    | (with_reducible first | refine r_seq ?_ | refine r_block ?_ | refine fork_not ?_ | refine fork_and ?_ | refine fork_or ?_ | refine chk_ok (by kernel_rfl) ?_)
    | ((with_reducible first | refine fork_dec ?_ ?_ | refine fork_eq ?_ ?_ | refine fork_ne ?_ ?_ | refine fork_intro ?_ ?_) <;> intro h <;> try (exfalso; first | omega | exact h rfl | (revert h; decide) | (cases h; done)))
    | ((with_reducible show False); omega)
    | ((first | (with_reducible first | refine r_exit ?_ | refine r_skip ?_ | refine r_cond ?_ | refine r_region ?_ | refine r_ret ?_ | show VX _ _ _ _ _ _ _ | show vstep _ _ _ _ _ | show vskip _ _ _ | show withV _ _) | ((with_reducible show endA _ _ _ _ _ _ _); simp -implicitDefEqProofs only [endA]) | (with_reducible first | refine pick_viewG default (by first | omega | (simp only [LN, e1]; omega)) (by first | omega | (simp only [LN, e1]; omega)) ?_ | refine pick_own default (by first | omega | (simp only [LN, e1]; omega)) ?_ | refine And.intro (by first | decide | omega | assumption | (simp only [LN, e1]; omega)) ?_) | ((with_reducible apply callK_pure); (first | exact kv | exact kd | fail)) | ((with_reducible apply callF_lend); (first | exact kv | exact kd | fail); rfl) | ((with_reducible apply callF_go); (first | exact kv | exact kd | fail)) | ((with_reducible show pickE _ _ _); first | refine pickE_intro _ ⟨by omega, by rfl⟩ ?_ | refine pickE_intro _ (by rfl) ?_) | fail); try simp -dsimp -implicitDefEqProofs (maxSteps := 1000000) (disch := first | omega | (simp only [LN, e1]; omega)) only [go_sem, e1])
    | fail)
   all_goals first | omega | (simp [txE, wsE, joinL, *, decP_s, decP_0]; done)
  ·have e1 : IntKind.u64.wrap x.th = x.th := by rw [wr64]; omega
   have kd := sDec [102, 101, 110, 99, 101] (by simp) [x.th] (by simp) (by intro j; match j with | 0 => exact ⟨h2.1, by show x.th ≤ _; omega⟩ | j + 1 => exact (show (0 : Int) ≤ 0 ∧ (0 : Int) ≤ 18446744073709551615 from ⟨by decide, by decide⟩))
   repeat' (first
    | (with_reducible first | refine r_seq ?_ | refine r_block ?_ | refine fork_not ?_ | refine fork_and ?_ | refine fork_or ?_ | refine chk_ok (by kernel_rfl) ?_)
    | ((with_reducible first | refine fork_dec ?_ ?_ | refine fork_eq ?_ ?_ | refine fork_ne ?_ ?_ | refine fork_intro ?_ ?_) <;> intro h <;> try (exfalso; first | omega | exact h rfl | (revert h; decide) | (cases h; done)))
    | ((with_reducible show False); omega)
    | ((first | (with_reducible first | refine r_exit ?_ | refine r_skip ?_ | refine r_cond ?_ | refine r_region ?_ | refine r_ret ?_ | show VX _ _ _ _ _ _ _ | show vstep _ _ _ _ _ | show vskip _ _ _ | show withV _ _) | ((with_reducible show endA _ _ _ _ _ _ _); simp -implicitDefEqProofs only [endA]) | (with_reducible first | refine pick_viewG default (by first | omega | (simp only [LN, e1]; omega)) (by first | omega | (simp only [LN, e1]; omega)) ?_ | refine pick_own default (by first | omega | (simp only [LN, e1]; omega)) ?_ | refine And.intro (by first | decide | omega | assumption | (simp only [LN, e1]; omega)) ?_) | ((with_reducible apply callK_pure); (first | exact kv | exact kd | fail)) | ((with_reducible apply callF_lend); (first | exact kv | exact kd | fail); rfl) | ((with_reducible apply callF_go); (first | exact kv | exact kd | fail)) | ((with_reducible show pickE _ _ _); first | refine pickE_intro _ ⟨by omega, by rfl⟩ ?_ | refine pickE_intro _ (by rfl) ?_) | fail); try simp -dsimp -implicitDefEqProofs (maxSteps := 1000000) (disch := first | omega | (simp only [LN, e1]; omega)) only [go_sem, e1])
    | fail)
   all_goals first | omega | (simp [txE, wsE, joinL, *, decP_s, decP_0]; done)
  ·have e1 : IntKind.u64.wrap x.ln = x.ln := by rw [wr64]; omega
   have e2 : IntKind.u64.wrap x.n = x.n := by rw [wr64]; omega
   have kd := sDec [119, 114, 105, 116, 101, 98, 97, 99, 107] (by simp) [x.ln, x.n] (by simp) (by intro j; match j with | 0 => exact ⟨h2.1, by show x.ln ≤ _; omega⟩ | 1 => exact ⟨h3.1, by show x.n ≤ _; omega⟩ | j + 2 => exact (show (0 : Int) ≤ 0 ∧ (0 : Int) ≤ 18446744073709551615 from ⟨by decide, by decide⟩))
   repeat' (first
    | (with_reducible first | refine r_seq ?_ | refine r_block ?_ | refine fork_not ?_ | refine fork_and ?_ | refine fork_or ?_ | refine chk_ok (by kernel_rfl) ?_)
    | ((with_reducible first | refine fork_dec ?_ ?_ | refine fork_eq ?_ ?_ | refine fork_ne ?_ ?_ | refine fork_intro ?_ ?_) <;> intro h <;> try (exfalso; first | omega | exact h rfl | (revert h; decide) | (cases h; done)))
    | ((with_reducible show False); omega)
    | ((first | (with_reducible first | refine r_exit ?_ | refine r_skip ?_ | refine r_cond ?_ | refine r_region ?_ | refine r_ret ?_ | show VX _ _ _ _ _ _ _ | show vstep _ _ _ _ _ | show vskip _ _ _ | show withV _ _) | ((with_reducible show endA _ _ _ _ _ _ _); simp -implicitDefEqProofs only [endA]) | (with_reducible first | refine pick_viewG default (by first | omega | (simp only [LN, e1, e2]; omega)) (by first | omega | (simp only [LN, e1, e2]; omega)) ?_ | refine pick_own default (by first | omega | (simp only [LN, e1, e2]; omega)) ?_ | refine And.intro (by first | decide | omega | assumption | (simp only [LN, e1, e2]; omega)) ?_) | ((with_reducible apply callK_pure); (first | exact kv | exact kd | fail)) | ((with_reducible apply callF_lend); (first | exact kv | exact kd | fail); rfl) | ((with_reducible apply callF_go); (first | exact kv | exact kd | fail)) | ((with_reducible show pickE _ _ _); first | refine pickE_intro _ ⟨by omega, by rfl⟩ ?_ | refine pickE_intro _ (by rfl) ?_) | fail); try simp -dsimp -implicitDefEqProofs (maxSteps := 1000000) (disch := first | omega | (simp only [LN, e1, e2]; omega)) only [go_sem, e1, e2])
    | fail)
   all_goals first | omega | (simp [txE, wsE, joinL, *, decP_s, decP_0]; done)
  ·have ki := lItoa x.n (by omega)
   have hl := numL_len (n := x.n) (by omega)
   repeat' (first
    | (with_reducible first | refine r_seq ?_ | refine r_block ?_ | refine fork_not ?_ | refine fork_and ?_ | refine fork_or ?_ | refine chk_ok (by kernel_rfl) ?_)
    | ((with_reducible first | refine fork_dec ?_ ?_ | refine fork_eq ?_ ?_ | refine fork_ne ?_ ?_ | refine fork_intro ?_ ?_) <;> intro h <;> try (exfalso; first | omega | exact h rfl | (revert h; decide) | (cases h; done)))
    | ((with_reducible show False); omega)
    | ((first | (with_reducible first | refine r_exit ?_ | refine r_skip ?_ | refine r_cond ?_ | refine r_region ?_ | refine r_ret ?_ | show VX _ _ _ _ _ _ _ | show vstep _ _ _ _ _ | show vskip _ _ _ | show withV _ _) | ((with_reducible show endA _ _ _ _ _ _ _); simp -implicitDefEqProofs only [endA]) | (with_reducible first | refine pick_viewG default (by first | omega | (simp only [LN]; omega)) (by first | omega | (simp only [LN]; omega)) ?_ | refine pick_own default (by first | omega | (simp only [LN]; omega)) ?_ | refine And.intro (by first | decide | omega | assumption | (simp only [LN]; omega)) ?_) | ((with_reducible apply callK_pure); (first | exact kv | exact ki | fail)) | ((with_reducible apply callF_lend); (first | exact kv | exact ki | fail); rfl) | ((with_reducible apply callF_go); (first | exact kv | exact ki | fail)) | ((with_reducible show pickE _ _ _); first | refine pickE_intro _ ⟨by omega, by rfl⟩ ?_ | refine pickE_intro _ (by rfl) ?_) | fail); try simp -dsimp -implicitDefEqProofs (maxSteps := 1000000) (disch := first | omega | (simp only [LN]; omega)) only [go_sem])
    | fail)
   all_goals first | omega | (simp [txE, wsE, joinL, *]; done)
  ·by_cases h0 : x.ch.length = 0
   ·have h00 : x.ch = [] := List.length_eq_zero_iff.1 h0
    repeat' (first
     | (with_reducible first | refine r_seq ?_ | refine r_block ?_ | refine fork_not ?_ | refine fork_and ?_ | refine fork_or ?_ | refine chk_ok (by kernel_rfl) ?_)
     | ((with_reducible first | refine fork_dec ?_ ?_ | refine fork_eq ?_ ?_ | refine fork_ne ?_ ?_ | refine fork_intro ?_ ?_) <;> intro h <;> try (exfalso; first | omega | exact h rfl | (revert h; decide) | (cases h; done)))
     | ((with_reducible show False); omega)
     | ((first | (with_reducible first | refine r_exit ?_ | refine r_skip ?_ | refine r_cond ?_ | refine r_region ?_ | refine r_ret ?_ | show VX _ _ _ _ _ _ _ | show vstep _ _ _ _ _ | show vskip _ _ _ | show withV _ _) | ((with_reducible show endA _ _ _ _ _ _ _); simp -implicitDefEqProofs only [endA]) | (with_reducible first | refine pick_viewG default (by first | omega | (simp only [LN]; omega)) (by first | omega | (simp only [LN]; omega)) ?_ | refine pick_own default (by first | omega | (simp only [LN]; omega)) ?_ | refine And.intro (by first | decide | omega | assumption | (simp only [LN]; omega)) ?_) | ((with_reducible apply callK_pure); (exact kv)) | ((with_reducible apply callF_lend); (exact kv); rfl) | ((with_reducible apply callF_go); (exact kv)) | ((with_reducible show pickE _ _ _); first | refine pickE_intro _ ⟨by omega, by rfl⟩ ?_ | refine pickE_intro _ (by rfl) ?_) | fail); try simp -dsimp -implicitDefEqProofs (maxSteps := 1000000) (disch := first | omega | (simp only [LN]; omega)) only [go_sem])
     | fail)
    all_goals first | omega | (simp [txE, wsE, joinL, chL, *]; done)
   ·have ht := crP_tx h h0
    rw [ht]
    repeat' (first
     | (with_reducible first | refine r_seq ?_ | refine r_block ?_ | refine fork_not ?_ | refine fork_and ?_ | refine fork_or ?_ | refine chk_ok (by kernel_rfl) ?_)
     | ((with_reducible first | refine fork_dec ?_ ?_ | refine fork_eq ?_ ?_ | refine fork_ne ?_ ?_ | refine fork_intro ?_ ?_) <;> intro h <;> try (exfalso; first | omega | exact h rfl | (revert h; decide) | (cases h; done)))
     | ((with_reducible show False); omega)
     | ((first | (with_reducible first | refine r_exit ?_ | refine r_skip ?_ | refine r_cond ?_ | refine r_region ?_ | refine r_ret ?_ | show VX _ _ _ _ _ _ _ | show vstep _ _ _ _ _ | show vskip _ _ _ | show withV _ _) | ((with_reducible show endA _ _ _ _ _ _ _); simp -implicitDefEqProofs only [endA]) | (with_reducible first | refine pick_viewG default (by first | omega | (simp only [LN]; omega)) (by first | omega | (simp only [LN]; omega)) ?_ | refine pick_own default (by first | omega | (simp only [LN]; omega)) ?_ | refine And.intro (by first | decide | omega | assumption | (simp only [LN]; omega)) ?_) | ((with_reducible apply callK_pure); (exact kv)) | ((with_reducible apply callF_lend); (exact kv); rfl) | ((with_reducible apply callF_go); (exact kv)) | ((with_reducible show pickE _ _ _); first | refine pickE_intro _ ⟨by omega, by rfl⟩ ?_ | refine pickE_intro _ (by rfl) ?_) | fail); try simp -dsimp -implicitDefEqProofs (maxSteps := 1000000) (disch := first | omega | (simp only [LN]; omega)) only [go_sem])
     | fail)
    all_goals try (exfalso; omega)
    refine r_loopA (α := Nat) [70, 71] (fun i b => [(4, .sl b 1 0 (6 + 2 * i)), (72, aI i)]) (fun i b => []) (fun i => [.arr 1 ((crP x.ch i).map eB)]) (fun i => i ≤ x.ch.length) (fun i => x.ch.length - i) (0) ?h0_2 ?hs0_2 ?I_2 ?hI_2 ?round_2
    case hI_2 => intro x; (simp -dsimp -implicitDefEqProofs (maxSteps := 1000000) (disch := first | omega | (simp only [LN]; omega)) only [go_sem]) <;> exact rfl
    case hs0_2 => refine wk_auto ?_; (simp -dsimp -implicitDefEqProofs (maxSteps := 1000000) (disch := first | omega | (simp only [LN, crP_0]; omega)) only [go_sem, crP_0]) <;> (try omega)
    case h0_2 => exact Nat.zero_le _
    case round_2 =>
     intro i hi
     have hlen := crP_len x.ch i hi
     by_cases hlt : i < x.ch.length
     ·have hs : crP x.ch (i + 1) = crP x.ch i ++ [hexS.getD ((x.ch.getD i default).toNat / 16) 0, hexS.getD ((x.ch.getD i default).toNat % 16) 0] := crP_s hlt
      have hb := UInt8.toNat_lt (x.ch.getD i default)
      have e5 : IntKind.u8.wrap (((x.ch.getD i default).toNat : Int) / 16) = (((x.ch.getD i default).toNat / 16 : Nat) : Int) := by rw [wr8]; omega
      have e6 : IntKind.u8.wrap ((BitVec.ofInt IntKind.u8.bits ((x.ch.getD i default).toNat : Int) &&& BitVec.ofInt IntKind.u8.bits 15).toNat : Int) = (((x.ch.getD i default).toNat % 16 : Nat) : Int) := by
       show IntKind.u8.wrap ((BitVec.ofInt 8 ((x.ch.getD i default).toNat : Int) &&& BitVec.ofInt 8 15).toNat : Int) = _
       rw [and15 (by omega), wr8]; omega
      have e7 : (((x.ch.getD i default).toNat : Int) / 16).toNat = (x.ch.getD i default).toNat / 16 := by omega
      have e8 : (((x.ch.getD i default).toNat : Int) % 16).toNat = (x.ch.getD i default).toNat % 16 := by omega
      repeat' (first
       | (with_reducible first | refine r_seq ?_ | refine r_block ?_ | refine fork_not ?_ | refine fork_and ?_ | refine fork_or ?_ | refine chk_ok (by kernel_rfl) ?_)
       | ((with_reducible first | refine fork_dec ?_ ?_ | refine fork_eq ?_ ?_ | refine fork_ne ?_ ?_ | refine fork_intro ?_ ?_) <;> intro h <;> try (exfalso; first | omega | exact h rfl | (revert h; decide) | (cases h; done)))
       | ((with_reducible show False); omega)
       | ((first | (with_reducible first | refine r_exit ?_ | refine r_skip ?_ | refine r_cond ?_ | refine r_region ?_ | refine r_ret ?_ | show VX _ _ _ _ _ _ _ | show vstep _ _ _ _ _ | show vskip _ _ _ | show withV _ _) | ((with_reducible show endA _ _ _ _ _ _ _); simp -implicitDefEqProofs only [endA]) | (with_reducible first | refine pick_viewG default (by first | omega | (simp only [LN, hlen, e5, e6, e7, e8]; omega)) (by first | omega | (simp only [LN, hlen, e5, e6, e7, e8]; omega)) ?_ | refine pick_own default (by first | omega | (simp only [LN, hlen, e5, e6, e7, e8]; omega)) ?_ | refine And.intro (by first | decide | omega | assumption | (simp only [LN, hlen, e5, e6, e7, e8]; omega)) ?_) | ((with_reducible show pickE _ _ _); first | refine pickE_intro _ ⟨by omega, by rfl⟩ ?_ | refine pickE_intro _ (by rfl) ?_) | fail); try simp -dsimp -implicitDefEqProofs (maxSteps := 1000000) (disch := first | omega | (simp only [LN, hlen, e5, e6, e7, e8]; omega)) only [go_sem, hlen, e5, e6, e7, e8])
       | fail)
      all_goals first | omega | (refine loopQ_next (i + 1) ?_ ?_ ?_; (omega); (show _ < _; omega); (simp -dsimp -implicitDefEqProofs (maxSteps := 1000000) (disch := first | omega | (simp only [LN, hs, List.map_append, List.map_cons, List.map_nil, hlen, hexS, e7, e8]; omega)) only [go_sem, hs, List.map_append, List.map_cons, List.map_nil, hlen, hexS, e7, e8]; try trivial))
     ·obtain rfl : i = x.ch.length := by omega
      have ht2 : List.take (6 + 2 * x.ch.length) (crP x.ch x.ch.length) = crP x.ch x.ch.length := List.take_of_length_le (by omega)
      repeat' (first
       | (with_reducible first | refine r_seq ?_ | refine r_block ?_ | refine fork_not ?_ | refine fork_and ?_ | refine fork_or ?_ | refine chk_ok (by kernel_rfl) ?_)
       | ((with_reducible first | refine fork_dec ?_ ?_ | refine fork_eq ?_ ?_ | refine fork_ne ?_ ?_ | refine fork_intro ?_ ?_) <;> intro h <;> try (exfalso; first | omega | exact h rfl | (revert h; decide) | (cases h; done)))
       | ((with_reducible show False); omega)
       | ((first | (with_reducible first | refine r_exit ?_ | refine r_skip ?_ | refine r_cond ?_ | refine r_region ?_ | refine r_ret ?_ | show VX _ _ _ _ _ _ _ | show vstep _ _ _ _ _ | show vskip _ _ _ | show withV _ _) | ((with_reducible show endA _ _ _ _ _ _ _); simp -implicitDefEqProofs only [endA]) | (with_reducible first | refine pick_viewG default (by first | omega | (simp only [LN, hlen, ht2]; omega)) (by first | omega | (simp only [LN, hlen, ht2]; omega)) ?_ | refine pick_own default (by first | omega | (simp only [LN, hlen, ht2]; omega)) ?_ | refine And.intro (by first | decide | omega | assumption | (simp only [LN, hlen, ht2]; omega)) ?_) | ((with_reducible show pickE _ _ _); first | refine pickE_intro _ ⟨by omega, by rfl⟩ ?_ | refine pickE_intro _ (by rfl) ?_) | fail); try simp -dsimp -implicitDefEqProofs (maxSteps := 1000000) (disch := first | omega | (simp only [LN, hlen, ht2]; omega)) only [go_sem, hlen, ht2])
       | fail)
      all_goals first | rfl | omega
end Go.Proofs.YtckhjklcfagkoaaGreatDoor