/- Contracts of functions of this program, and the plain facts that they rest on. No conditions. -/
import Derived.Test.YtlldhofcdfejnaaTpKQ
import Derived.Test.YtlldhofcdfejnaaTpMQ
set_option linter.unusedSimpArgs false
set_option linter.unusedVariables false
namespace Go.Proofs.Ytlldhofcdfejnaa
open Go Go.Ab
attribute [local irreducible] callK callF loopQ vstep vskip pickE hideP
set_option maxRecDepth 100000
def TL (A : Dv) (k : Nat) : List (List UInt8) := (List.range k).map (imA A)
theorem TL_len (A : Dv) (k : Nat) : (TL A k).length = k := by simp [TL]
theorem TL_s (A : Dv) (k : Nat) : TL A (k + 1) = TL A k ++ [imA A k] := by simp [TL, List.range_succ]
theorem TL_0 (A : Dv) : TL A 0 = [] := rfl
theorem TL_mem {A : Dv} {k : Nat} {q : List UInt8} : q ∈ TL A k ↔ ∃ i, i < k ∧ imA A i = q := by simp [TL]
theorem TL_ln {A : Dv} {k : Nat} {q : List UInt8} (h : q ∈ TL A k) : q.length = 64 * A.n := by
 obtain ⟨i, _, rfl⟩ := TL_mem.1 h; exact imA_len A i
theorem all_app {T : List (List UInt8)} {p : List UInt8} (h : ∀ q, q ∈ T → q.length = 192) (hp : p.length = 192) : ∀ q, q ∈ T ++ [p] → q.length = 192 := by
 intro q hq
 rcases List.mem_append.1 hq with h1 | h1
 ·exact h q h1
 ·rw [List.mem_singleton.1 h1]; exact hp
theorem len_app {T : List (List UInt8)} {p : List UInt8} {m : Nat} (h : T.length ≤ m) : (T ++ [p]).length ≤ m + 1 := by
 rw [List.length_append, List.length_singleton]; omega
def inB (q : List UInt8) (L : List (List UInt8)) (j : Nat) : Bool := decide (q ∈ L.take j)
theorem inB_0 (q : List UInt8) (L : List (List UInt8)) : inB q L 0 = false := by simp [inB]
theorem inB_s (q : List UInt8) (L : List (List UInt8)) {j : Nat} (h : j < L.length) : inB q L (j + 1) = (inB q L j || decide (q = L.getD j default)) := by
 unfold inB
 rw [take_getD default h]
 by_cases h1 : q ∈ L.take j <;> simp [h1]
theorem inB_n (q : List UInt8) (L : List (List UInt8)) : inB q L L.length = decide (q ∈ L) := by simp [inB]
theorem checkM_w {l : List UInt8} (hl : l.length = 192) {w : Nat} (hw : w < 24) : checkM l (8 * (w : Int)) = 0 := by
 unfold checkM; rw [if_neg (by omega), if_neg (by omega)]
theorem tWith (l : List UInt8) (hl : l.length = 192) (w : Nat) (hw : w < 24) (v : Int) (hv : 0 ≤ v ∧ v ≤ 18446744073709551615) : PCalls Try.prog 9 [eI l, .v (.int .u64 (8 * (w : Int))), .v (.int .u64 v)] (.tup [eI (putM l (8 * w) v 8), .v (.int .i64 0)]) := by
 have k := c25 l (8 * (w : Int)) v (by omega) (by omega) (by omega) hv
 rw [withM, checkM_w hl hw, if_pos rfl, show (8 * (w : Int)).toNat = 8 * w by omega] at k
 exact k
theorem tWord2 (l : List UInt8) (hl : l.length = 192) (w : Nat) (hw : w < 24) : PCalls Try.prog 10 [eI l, .v (.int .u64 (8 * (w : Int)))] (.tup [.v (.int .u64 (wordU l (8 * w) 8 : Nat)), .v (.int .i64 0)]) := by
 have k := c24 l (8 * w) (by omega) (by omega) (by omega)
 rw [show ((8 * w : Nat) : Int) = 8 * (w : Int) by omega, checkM_w hl hw, if_pos rfl] at k
 exact k
theorem tRes (l : List UInt8) (hl : l.length = 192) : ∃ q : List UInt8, q.length = 256 ∧ PCalls Try.prog 11 [eI l, .v (.int .i64 4)] (.tup [eI q, .v (.int .i64 0)]) := by
 have k := c19 l 4 (by omega) (by omega)
 rw [if_neg (by omega)] at k
 refine ⟨_, ?_, k⟩
 rw [resM, if_neg (by omega), List.length_append, List.length_take, zerosM, List.length_replicate]
 omega
theorem kPoss (A : Dv) (J : Nat → List (Int × Int)) (h : Inv A J 12) (q : List UInt8) (hq : q.length ≤ 9000000) : ACalls Try.prog 8 [.loc 0 0, .p (eI q)] [deO A 1 2 3 4, peO A, cuO A, liO A J 12, thO A 0 0 18, thO A 1 0 18, thO A 2 0 18, thO A 3 0 18, thO A 4 0 18, thO A 5 0 18, thO A 6 0 18, thO A 7 0 18, hiO A J 0, hiO A J 1, hiO A J 2, hiO A J 3, hiO A J 4, hiO A J 5, noO A 0, noO A 1, noO A 2, noO A 3, noO A 4, noO A 5, noO A 6, noO A 7] (.p (.v (.bool (decide (q ∈ TL A (prodT (hA A))))))) [deO A 1 2 3 4, peO A, cuO A, liO A J 12, thO A 0 0 18, thO A 1 0 18, thO A 2 0 18, thO A 3 0 18, thO A 4 0 18, thO A 5 0 18, thO A 6 0 18, thO A 7 0 18, hiO A J 0, hiO A J 1, hiO A J 2, hiO A J 3, hiO A J 4, hiO A J 5, noO A 0, noO A 1, noO A 2, noO A 3, noO A 4, noO A 5, noO A 6, noO A 7] := by
 have k := kPossible A J 12 q h (by omega) (hsOk_12 h) hq
 have e : (fnR (bA A) q (dA A) (hA A) A.n).isSome = decide (q ∈ TL A (prodT (hA A))) := by
  rw [Bool.eq_iff_iff, decide_eq_true_iff, TL_mem]; exact poss_iff h.wf q
 rw [e] at k
 exact k
theorem kAt0 (A : Dv) (J : Nat → List (Int × Int)) (h : Inv A J 12) (h3 : A.n = 3) (i : Nat) (hi : i < prodT (hA A)) : ACalls Try.prog 6 [.loc 0 0, .p (.v (.int .u64 i))] [deO A 1 2 3 4, peO A, cuO A, liO A J 12, thO A 0 0 18, thO A 1 0 18, thO A 2 0 18, thO A 3 0 18, thO A 4 0 18, thO A 5 0 18, thO A 6 0 18, thO A 7 0 18, hiO A J 0, hiO A J 1, hiO A J 2, hiO A J 3, hiO A J 4, hiO A J 5, noO A 0, noO A 1, noO A 2, noO A 3, noO A 4, noO A 5, noO A 6, noO A 7] (.tup [.p (eI (imA A i)), .p (.v (.int .i64 0))]) [deO A 1 2 3 4, peO A, cuO A, liO A J 12, thO A 0 0 18, thO A 1 0 18, thO A 2 0 18, thO A 3 0 18, thO A 4 0 18, thO A 5 0 18, thO A 6 0 18, thO A 7 0 18, hiO A J 0, hiO A J 1, hiO A J 2, hiO A J 3, hiO A J 4, hiO A J 5, noO A 0, noO A 1, noO A 2, noO A 3, noO A 4, noO A 5, noO A 6, noO A 7] :=
 kAt A J 12 i h (by omega) (by have := prodT_12 h h3; omega) (hsOk_12 h) (by have := prodT_12 h h3; omega) (dgT_0 hi)
attribute [local go_sem] eI eBS eU deO peO cuO liO thO hiO noO
set_option maxRecDepth 100000 in
set_option maxHeartbeats 4000000 in
theorem tPoss (l : List BSt) (hl : l.length ≤ 140737488355328) (hR : ∀ x, x ∈ l → RngB x) (a v : Int) (ha : 0 ≤ a ∧ a ≤ 18446744073709551615) (hv : 0 ≤ v ∧ v ≤ 18446744073709551615) : PCalls Try.prog 3 [.view 4 (l.map eBS), .v (.int .u64 a), .v (.int .u64 v)] (.v (.bool true)) := by
 refine pcalls_facts ⟨_, rfl, rfl, by decide⟩ fun hf => ?_
 simp only [go_sem, big] at hf
 refine pcalls_of (E := E) (fn := Try.f3) 183 [.tmp 6] rfl rfl rfl rfl (by decide) rfl ?_
 have kb := bSteps l hl hR
 repeat' (first
  | (with_reducible first | refine r_seq ?_ | refine r_block ?_ | refine fork_not ?_ | refine fork_and ?_ | refine fork_or ?_ | refine chk_ok (by kernel_rfl) ?_)
  | ((with_reducible first | refine fork_dec ?_ ?_ | refine fork_eq ?_ ?_ | refine fork_ne ?_ ?_ | refine fork_intro ?_ ?_) <;> intro h <;> try (exfalso; first | omega | exact h rfl | (revert h; decide) | (cases h; done)))
  | ((with_reducible show False); omega)
  | ((with_reducible first | refine r_gr0 [5] (by with_unfolding_all exact rfl) ?_ | refine r_gr1 [5] (by with_unfolding_all exact rfl) ?_ | refine r_gr2 [5] (by with_unfolding_all exact rfl) ?_ | refine r_gr3 [5] (by with_unfolding_all exact rfl) ?_ | refine r_gr4 [5] (by with_unfolding_all exact rfl) ?_ | refine r_gr5 [5] (by with_unfolding_all exact rfl) ?_ | refine r_gr6 [5] (by with_unfolding_all exact rfl) ?_ | refine r_gr7 [5] (by with_unfolding_all exact rfl) ?_ | refine r_gr8 [5] (by with_unfolding_all exact rfl) ?_ | refine r_gr9 [5] (by with_unfolding_all exact rfl) ?_ | refine r_gr10 [5] (by with_unfolding_all exact rfl) ?_); simp -dsimp -implicitDefEqProofs (maxSteps := 1000000) (disch := first | omega | (simp only [LN]; omega)) only [go_sem])
  | ((first | (with_reducible first | refine r_exit ?_ | refine r_skip ?_ | refine r_cond ?_ | refine r_region ?_ | refine r_ret ?_ | show VX _ _ _ _ _ _ _ | show vstep _ _ _ _ _ | show vskip _ _ _ | show withV _ _) | ((with_reducible show endA _ _ _ _ _ _ _); simp -implicitDefEqProofs only [endA]) | (with_reducible first | refine pick_viewG default (by first | omega | (simp only [LN]; omega)) (by first | omega | (simp only [LN]; omega)) ?_ | refine pick_own default (by first | omega | (simp only [LN]; omega)) ?_ | refine And.intro (by first | decide | omega | assumption | (simp only [LN]; omega)) ?_) | ((with_reducible apply callX_go); (first | exact kb | fail); intro gq) | ((with_reducible show pickE _ _ _); first | refine pickE_intro _ ⟨by omega, by rfl⟩ ?_ | refine pickE_intro _ (by rfl) ?_) | fail); try simp -dsimp -implicitDefEqProofs (maxSteps := 1000000) (disch := first | omega | (simp only [LN]; omega)) only [go_sem])
  | fail)
 obtain ⟨⟨A, J⟩, hI, h3⟩ := gq
 simp only at hI h3
 have hp := prodT_12 hI h3
 have hp1 := prodT_pos (hA A)
 have k1 := kCount A J 12 hI (by omega) (by omega)
 have kA := kAt0 A J hI h3
 have kP := kPoss A J hI
 generalize hnn : prodT (hA A) = n at *
 by_cases hc : n ≤ 256
 ·repeat' (first
   | (with_reducible first | refine r_seq ?_ | refine r_block ?_ | refine fork_not ?_ | refine fork_and ?_ | refine fork_or ?_ | refine chk_ok (by kernel_rfl) ?_)
   | ((with_reducible first | refine fork_dec ?_ ?_ | refine fork_eq ?_ ?_ | refine fork_ne ?_ ?_ | refine fork_intro ?_ ?_) <;> intro h <;> try (exfalso; first | omega | exact h rfl | (revert h; decide) | (cases h; done)))
   | ((with_reducible show False); omega)
   | ((first | (with_reducible first | refine r_exit ?_ | refine r_skip ?_ | refine r_cond ?_ | refine r_region ?_ | refine r_ret ?_ | show VX _ _ _ _ _ _ _ | show vstep _ _ _ _ _ | show vskip _ _ _ | show withV _ _) | ((with_reducible show endA _ _ _ _ _ _ _); simp -implicitDefEqProofs only [endA]) | (with_reducible first | refine pick_viewG default (by first | omega | (simp only [LN]; omega)) (by first | omega | (simp only [LN]; omega)) ?_ | refine pick_own default (by first | omega | (simp only [LN]; omega)) ?_ | refine And.intro (by first | decide | omega | assumption | (simp only [LN]; omega)) ?_) | (with_reducible first | apply callK_lent | apply callF_lent | apply hideP_own) | ((with_reducible apply callA_go); (first | exact k1 | fail)) | ((with_reducible show pickE _ _ _); first | refine pickE_intro _ ⟨by omega, by rfl⟩ ?_ | refine pickE_intro _ (by rfl) ?_) | fail); try simp -dsimp -implicitDefEqProofs (maxSteps := 1000000) (disch := first | omega | (simp only [LN]; omega)) only [go_sem])
   | fail)
  have hT := fun k q (h : q ∈ TL A k) => (TL_ln h).trans (show 64 * A.n = 192 by omega)
  have hTl := TL_len A
  refine r_loopA (α := Nat) [1, 2, 7, 8, 56] (fun k b => [(10, .sl b 1 0 k), (57, .p (.v (.int .u64 k)))]) (fun k b => []) (fun k => [.arr 1 ((TL A k).map eI)]) (fun k => k ≤ n) (fun k => n - k) (0) ?h0_1 ?hs0_1 ?I_1 ?hI_1 ?round_1
  case hI_1 => intro x; (simp -dsimp -implicitDefEqProofs (maxSteps := 1000000) (disch := first | omega | (simp only [LN]; omega)) only [go_sem]) <;> exact rfl
  case hs0_1 => refine wk_auto ?_; (simp -dsimp -implicitDefEqProofs (maxSteps := 1000000) (disch := first | omega | (simp only [LN, TL_0]; omega)) only [go_sem, TL_0]) <;> (try omega)
  case h0_1 => exact Nat.zero_le _
  case round_1 =>
   intro k hk
   have hkl := hTl k
   by_cases hk2 : k < n
   ·have k2 := kA k hk2
    have hs := TL_s A k
    have hm : imA A k ∈ TL A n := TL_mem.2 ⟨k, hk2, rfl⟩
    have hpl : (imA A k).length = 192 := hT n _ hm
    generalize imA A k = p at *
    have k3 := c15 p (by omega)
    rw [show p.length / 64 = 3 by omega] at k3
    have k4 := kP p (by omega)
    rw [decide_eq_true hm] at k4
    have w3 : IntKind.u64.wrap ((k : Int) + 1) = ((k + 1 : Nat) : Int) := by rw [wr64]; omega
    repeat' (first
     | (with_reducible first | refine r_seq ?_ | refine r_block ?_ | refine fork_not ?_ | refine fork_and ?_ | refine fork_or ?_ | refine chk_ok (by kernel_rfl) ?_)
     | ((with_reducible first | refine fork_dec ?_ ?_ | refine fork_eq ?_ ?_ | refine fork_ne ?_ ?_ | refine fork_intro ?_ ?_) <;> intro h <;> try (exfalso; first | omega | exact h rfl | (revert h; decide) | (cases h; done)))
     | ((with_reducible show False); omega)
     | ((first | (with_reducible first | refine r_exit ?_ | refine r_skip ?_ | refine r_cond ?_ | refine r_region ?_ | refine r_ret ?_ | show VX _ _ _ _ _ _ _ | show vstep _ _ _ _ _ | show vskip _ _ _ | show withV _ _) | ((with_reducible show endA _ _ _ _ _ _ _); simp -implicitDefEqProofs only [endA]) | (with_reducible first | refine pick_viewG default (by first | omega | (simp only [LN]; omega)) (by first | omega | (simp only [LN]; omega)) ?_ | refine pick_own default (by first | omega | (simp only [LN]; omega)) ?_ | refine And.intro (by first | decide | omega | assumption | (simp only [LN]; omega)) ?_) | ((with_reducible apply callK_pure); (exact k3)) | ((with_reducible apply callF_lend); (exact k3); rfl) | ((with_reducible apply callF_go); (exact k3)) | (with_reducible first | apply callK_lent | apply callF_lent | apply hideP_own) | ((with_reducible apply callA_go); (first | exact k2 | exact k4 | fail)) | ((with_reducible show pickE _ _ _); first | refine pickE_intro _ ⟨by omega, by rfl⟩ ?_ | refine pickE_intro _ (by rfl) ?_) | fail); try simp -dsimp -implicitDefEqProofs (maxSteps := 1000000) (disch := first | omega | (simp only [LN]; omega)) only [go_sem])
     | fail)
    all_goals first | omega | ((refine loopQ_next (k + 1) ?_ ?_ ?_; (omega); (show _ < _; omega); (simp -dsimp -implicitDefEqProofs (maxSteps := 1000000) (disch := first | omega | (simp only [LN, w3, hs, List.map_append, List.map_cons, List.map_nil]; omega)) only [go_sem, w3, hs, List.map_append, List.map_cons, List.map_nil]; try trivial)))
   ·obtain rfl : k = n := by omega
    clear hk2 hk
    obtain ⟨a0, ha0, hae⟩ : ∃ a0 : Nat, a0 < k ∧ IntKind.i64.wrap (a.tmod (k : Int)) = a0 := by
     have h1 := Int.emod_nonneg a (show (k : Int) ≠ 0 by omega)
     have h2 := Int.emod_lt_of_pos a (show (0 : Int) < k by omega)
     exact ⟨(a % (k : Int)).toNat, by omega, by rw [Int.tmod_eq_emod_of_nonneg ha.1, i64w (by omega) (by omega)]; omega⟩
    have hbm : (TL A k).getD a0 default ∈ TL A k := by rw [List.getD_eq_getElem?_getD, List.getElem?_eq_getElem (by rw [hkl]; exact ha0)]; exact List.getElem_mem _
    have hbl : ((TL A k).getD a0 default).length = 192 := hT k _ hbm
    generalize hbb : (TL A k).getD a0 default = base at *
    have vd : IntKind.u64.wrap (v.tmod 3) = v % 3 := by rw [Int.tmod_eq_emod_of_nonneg hv.1, wr64]; omega
    have vd2 : v.tmod 3 = v % 3 := by rw [Int.tmod_eq_emod_of_nonneg hv.1]
    have vd3 : IntKind.u64.wrap (v % 3) = v % 3 := by rw [wr64]; omega
    repeat' (first
     | (with_reducible first | refine r_seq ?_ | refine r_block ?_ | refine fork_not ?_ | refine fork_and ?_ | refine fork_or ?_ | refine chk_ok (by kernel_rfl) ?_)
     | ((with_reducible first | refine fork_dec ?_ ?_ | refine fork_eq ?_ ?_ | refine fork_ne ?_ ?_ | refine fork_intro ?_ ?_) <;> intro h <;> try (exfalso; first | omega | exact h rfl | (revert h; decide) | (cases h; done)))
     | ((with_reducible show False); omega)
     | ((first | (with_reducible first | refine r_exit ?_ | refine r_skip ?_ | refine r_cond ?_ | refine r_region ?_ | refine r_ret ?_ | show VX _ _ _ _ _ _ _ | show vstep _ _ _ _ _ | show vskip _ _ _ | show withV _ _) | ((with_reducible show endA _ _ _ _ _ _ _); simp -implicitDefEqProofs only [endA]) | (with_reducible first | refine pick_viewG default (by first | omega | (simp only [LN, hae, hbb]; omega)) (by first | omega | (simp only [LN, hae, hbb]; omega)) ?_ | refine pick_own default (by first | omega | (simp only [LN, hae, hbb]; omega)) ?_ | refine And.intro (by first | decide | omega | assumption | (simp only [LN, hae, hbb]; omega)) ?_) | ((with_reducible show pickE _ _ _); first | refine pickE_intro _ ⟨by omega, by rfl⟩ ?_ | refine pickE_intro _ (by rfl) ?_) | fail); try simp -dsimp -implicitDefEqProofs (maxSteps := 1000000) (disch := first | omega | (simp only [LN, hae, hbb]; omega)) only [go_sem, hae, hbb])
     | fail)
    refine r_loopA (α := Nat × List (List UInt8)) [2, 7, 10, 14] (fun y b => [(15, .sl b 1 0 y.2.length), (91, .p (.v (.int .u64 y.1)))]) (fun y b => []) (fun y => [.arr 1 (y.2.map eI)]) (fun y => y.1 ≤ 24 ∧ y.2.length ≤ 9 * y.1 ∧ ∀ q, q ∈ y.2 → q.length = 192) (fun y => 24 - y.1) ((0, [])) ?h0_2 ?hs0_2 ?I_2 ?hI_2 ?round_2
    case hI_2 => intro x; (simp -dsimp -implicitDefEqProofs (maxSteps := 1000000) (disch := first | omega | (simp only [LN]; omega)) only [go_sem]) <;> exact rfl
    case hs0_2 => refine wk_auto ?_; (simp -dsimp -implicitDefEqProofs (maxSteps := 1000000) (disch := first | omega | (simp only [LN, List.length_nil, List.map_nil]; omega)) only [go_sem, List.length_nil, List.map_nil]) <;> (try omega)
    case h0_2 => exact ⟨Nat.zero_le _, Nat.zero_le _, fun q h => absurd h List.not_mem_nil⟩
    case round_2 =>
     rintro ⟨w, T⟩ ⟨hw, hTl2, hT2⟩
     simp only at hw hTl2 hT2
     by_cases hw2 : w < 24
     ·have k5 := tWith base hbl w hw2 (v % 3) (by omega)
      have x1 : IntKind.u64.wrap (8 * (w : Int)) = 8 * (w : Int) := by rw [wr64]; omega
      have w3 : IntKind.u64.wrap ((w : Int) + 1) = ((w + 1 : Nat) : Int) := by rw [wr64]; omega
      have hpl : (putM base (8 * w) (v % 3) 8).length = 192 := by rw [putM_len]; exact hbl
      generalize putM base (8 * w) (v % 3) 8 = p at *
      obtain ⟨m, hm8, hm9⟩ : ∃ m : Nat, m = min k 8 ∧ min (k : Int) 8 = (m : Int) := ⟨min k 8, rfl, by omega⟩
      repeat' (first
       | (with_reducible first | refine r_seq ?_ | refine r_block ?_ | refine fork_not ?_ | refine fork_and ?_ | refine fork_or ?_ | refine chk_ok (by kernel_rfl) ?_)
       | ((with_reducible first | refine fork_dec ?_ ?_ | refine fork_eq ?_ ?_ | refine fork_ne ?_ ?_ | refine fork_intro ?_ ?_) <;> intro h <;> try (exfalso; first | omega | exact h rfl | (revert h; decide) | (cases h; done)))
       | ((with_reducible show False); omega)
       | ((first | (with_reducible first | refine r_exit ?_ | refine r_skip ?_ | refine r_cond ?_ | refine r_region ?_ | refine r_ret ?_ | show VX _ _ _ _ _ _ _ | show vstep _ _ _ _ _ | show vskip _ _ _ | show withV _ _) | ((with_reducible show endA _ _ _ _ _ _ _); simp -implicitDefEqProofs only [endA]) | (with_reducible first | refine pick_viewG default (by first | omega | (simp only [LN, vd, vd2, vd3, x1, hm9]; omega)) (by first | omega | (simp only [LN, vd, vd2, vd3, x1, hm9]; omega)) ?_ | refine pick_own default (by first | omega | (simp only [LN, vd, vd2, vd3, x1, hm9]; omega)) ?_ | refine And.intro (by first | decide | omega | assumption | (simp only [LN, vd, vd2, vd3, x1, hm9]; omega)) ?_) | ((with_reducible apply callK_pure); (exact k5)) | ((with_reducible apply callF_lend); (exact k5); rfl) | ((with_reducible apply callF_go); (exact k5)) | ((with_reducible show pickE _ _ _); first | refine pickE_intro _ ⟨by omega, by rfl⟩ ?_ | refine pickE_intro _ (by rfl) ?_) | fail); try simp -dsimp -implicitDefEqProofs (maxSteps := 1000000) (disch := first | omega | (simp only [LN, vd, vd2, vd3, x1, hm9]; omega)) only [go_sem, vd, vd2, vd3, x1, hm9])
       | fail)
      refine r_loopA (α := Nat × List (List UInt8)) [2, 7, 10, 14, 16, 91, 113, 114] (fun z b => [(15, .sl b 1 0 z.2.length), (115, aI z.1)]) (fun z b => []) (fun z => [.arr 1 (z.2.map eI)]) (fun z => z.1 ≤ m ∧ z.2.length ≤ 9 * w + 1 + z.1 ∧ ∀ q, q ∈ z.2 → q.length = 192) (fun z => m - z.1) ((0, T ++ [p])) ?h0_3 ?hs0_3 ?I_3 ?hI_3 ?round_3
      case hI_3 => intro x; (simp -dsimp -implicitDefEqProofs (maxSteps := 1000000) (disch := first | omega | (simp only [LN]; omega)) only [go_sem]) <;> exact rfl
      case hs0_3 => refine wk_auto ?_; (simp -dsimp -implicitDefEqProofs (maxSteps := 1000000) (disch := first | omega | (simp only [LN, List.map_append, List.map_cons, List.map_nil, List.length_append, List.length_singleton]; omega)) only [go_sem, List.map_append, List.map_cons, List.map_nil, List.length_append, List.length_singleton]) <;> (try omega)
      case h0_3 => exact ⟨Nat.zero_le _, len_app hTl2, all_app hT2 hpl⟩
      case round_3 =>
       rintro ⟨i, T3⟩ ⟨hi, hTl3, hT3⟩
       simp only at hi hTl3 hT3
       have v3 : IntKind.i64.wrap ((i : Int) + 1) = ((i + 1 : Nat) : Int) := by rw [IntKind.wrap_i64]; push_cast; omega
       by_cases hi2 : i < m
       ·have hqm : (TL A k).getD i default ∈ TL A k := by rw [List.getD_eq_getElem?_getD, List.getElem?_eq_getElem (by rw [hkl]; omega)]; exact List.getElem_mem _
        have hql : ((TL A k).getD i default).length = 192 := hT k _ hqm
        generalize hqq : (TL A k).getD i default = q at *
        have k6 := tWord2 q hql w hw2
        have hx : (0 : Int) ≤ (wordU q (8 * w) 8 : Nat) ∧ ((wordU q (8 * w) 8 : Nat) : Int) ≤ 18446744073709551615 := by have := wordU_lt q (8 * w) 8; omega
        generalize ((wordU q (8 * w) 8 : Nat) : Int) = x at *
        have k7 := tWith base hbl w hw2 x hx
        have hrl : (putM base (8 * w) x 8).length = 192 := by rw [putM_len]; exact hbl
        generalize putM base (8 * w) x 8 = r at *
        repeat' (first
         | (with_reducible first | refine r_seq ?_ | refine r_block ?_ | refine fork_not ?_ | refine fork_and ?_ | refine fork_or ?_ | refine chk_ok (by kernel_rfl) ?_)
         | ((with_reducible first | refine fork_dec ?_ ?_ | refine fork_eq ?_ ?_ | refine fork_ne ?_ ?_ | refine fork_intro ?_ ?_) <;> intro h <;> try (exfalso; first | omega | exact h rfl | (revert h; decide) | (cases h; done)))
         | ((with_reducible show False); omega)
         | ((first | (with_reducible first | refine r_exit ?_ | refine r_skip ?_ | refine r_cond ?_ | refine r_region ?_ | refine r_ret ?_ | show VX _ _ _ _ _ _ _ | show vstep _ _ _ _ _ | show vskip _ _ _ | show withV _ _) | ((with_reducible show endA _ _ _ _ _ _ _); simp -implicitDefEqProofs only [endA]) | (with_reducible first | refine pick_viewG default (by first | omega | (simp only [LN, hqq, x1]; omega)) (by first | omega | (simp only [LN, hqq, x1]; omega)) ?_ | refine pick_own default (by first | omega | (simp only [LN, hqq, x1]; omega)) ?_ | refine And.intro (by first | decide | omega | assumption | (simp only [LN, hqq, x1]; omega)) ?_) | ((with_reducible apply callK_pure); (first | exact k6 | exact k7 | fail)) | ((with_reducible apply callF_lend); (first | exact k6 | exact k7 | fail); rfl) | ((with_reducible apply callF_go); (first | exact k6 | exact k7 | fail)) | ((with_reducible show pickE _ _ _); first | refine pickE_intro _ ⟨by omega, by rfl⟩ ?_ | refine pickE_intro _ (by rfl) ?_) | fail); try simp -dsimp -implicitDefEqProofs (maxSteps := 1000000) (disch := first | omega | (simp only [LN, hqq, x1]; omega)) only [go_sem, hqq, x1])
         | fail)
        all_goals first | omega | ((refine loopQ_next ((i + 1, T3 ++ [r])) ?_ ?_ ?_; (exact ⟨by show i + 1 ≤ _; omega, len_app hTl3, all_app hT3 hrl⟩); (show _ < _; omega); (simp -dsimp -implicitDefEqProofs (maxSteps := 1000000) (disch := first | omega | (simp only [LN, v3, List.map_append, List.map_cons, List.map_nil, List.length_append, List.length_singleton]; omega)) only [go_sem, v3, List.map_append, List.map_cons, List.map_nil, List.length_append, List.length_singleton]; try trivial)))
       ·obtain rfl : i = m := by omega
        repeat' (first
         | (with_reducible first | refine r_seq ?_ | refine r_block ?_ | refine fork_not ?_ | refine fork_and ?_ | refine fork_or ?_ | refine chk_ok (by kernel_rfl) ?_)
         | ((with_reducible first | refine fork_dec ?_ ?_ | refine fork_eq ?_ ?_ | refine fork_ne ?_ ?_ | refine fork_intro ?_ ?_) <;> intro h <;> try (exfalso; first | omega | exact h rfl | (revert h; decide) | (cases h; done)))
         | ((with_reducible show False); omega)
         | ((first | (with_reducible first | refine r_exit ?_ | refine r_skip ?_ | refine r_cond ?_ | refine r_region ?_ | refine r_ret ?_ | show VX _ _ _ _ _ _ _ | show vstep _ _ _ _ _ | show vskip _ _ _ | show withV _ _) | ((with_reducible show endA _ _ _ _ _ _ _); simp -implicitDefEqProofs only [endA]) | (with_reducible first | refine pick_viewG default (by first | omega | (simp only [LN]; omega)) (by first | omega | (simp only [LN]; omega)) ?_ | refine pick_own default (by first | omega | (simp only [LN]; omega)) ?_ | refine And.intro (by first | decide | omega | assumption | (simp only [LN]; omega)) ?_) | ((with_reducible show pickE _ _ _); first | refine pickE_intro _ ⟨by omega, by rfl⟩ ?_ | refine pickE_intro _ (by rfl) ?_) | fail); try simp -dsimp -implicitDefEqProofs (maxSteps := 1000000) (disch := first | omega | (simp only [LN]; omega)) only [go_sem])
         | fail)
        all_goals first | omega | ((refine loopQ_next ((w + 1, T3)) ?_ ?_ ?_; (exact ⟨by show w + 1 ≤ _; omega, by show T3.length ≤ _; omega, hT3⟩); (show _ < _; omega); (simp -dsimp -implicitDefEqProofs (maxSteps := 1000000) (disch := first | omega | (simp only [LN, w3]; omega)) only [go_sem, w3]; try trivial)))
     ·obtain rfl : w = 24 := by omega
      clear hw2 hw
      obtain ⟨wide, hwl, k8⟩ := tRes base hbl
      have k9 := kP wide (by omega)
      rw [decide_eq_false (fun h => by have := hT _ _ h; omega)] at k9
      repeat' (first
       | (with_reducible first | refine r_seq ?_ | refine r_block ?_ | refine fork_not ?_ | refine fork_and ?_ | refine fork_or ?_ | refine chk_ok (by kernel_rfl) ?_)
       | ((with_reducible first | refine fork_dec ?_ ?_ | refine fork_eq ?_ ?_ | refine fork_ne ?_ ?_ | refine fork_intro ?_ ?_) <;> intro h <;> try (exfalso; first | omega | exact h rfl | (revert h; decide) | (cases h; done)))
       | ((with_reducible show False); omega)
       | ((first | (with_reducible first | refine r_exit ?_ | refine r_skip ?_ | refine r_cond ?_ | refine r_region ?_ | refine r_ret ?_ | show VX _ _ _ _ _ _ _ | show vstep _ _ _ _ _ | show vskip _ _ _ | show withV _ _) | ((with_reducible show endA _ _ _ _ _ _ _); simp -implicitDefEqProofs only [endA]) | (with_reducible first | refine pick_viewG default (by first | omega | (simp only [LN]; omega)) (by first | omega | (simp only [LN]; omega)) ?_ | refine pick_own default (by first | omega | (simp only [LN]; omega)) ?_ | refine And.intro (by first | decide | omega | assumption | (simp only [LN]; omega)) ?_) | ((with_reducible apply callK_pure); (exact k8)) | ((with_reducible apply callF_lend); (exact k8); rfl) | ((with_reducible apply callF_go); (exact k8)) | (with_reducible first | apply callK_lent | apply callF_lent | apply hideP_own) | ((with_reducible apply callA_go); (first | exact k9 | fail)) | ((with_reducible show pickE _ _ _); first | refine pickE_intro _ ⟨by omega, by rfl⟩ ?_ | refine pickE_intro _ (by rfl) ?_) | fail); try simp -dsimp -implicitDefEqProofs (maxSteps := 1000000) (disch := first | omega | (simp only [LN]; omega)) only [go_sem])
       | fail)
      refine r_loopA (α := Nat) [7, 10, 158, 159] (fun i b => [(160, aI i)]) (fun i b => []) (fun i => []) (fun i => i ≤ T.length) (fun i => T.length - i) (0) ?h0_4 ?hs0_4 ?I_4 ?hI_4 ?round_4
      case hI_4 => intro x; (simp -dsimp -implicitDefEqProofs (maxSteps := 1000000) (disch := first | omega | (simp only [LN]; omega)) only [go_sem]) <;> exact rfl
      case hs0_4 => refine wk_auto ?_; (simp -dsimp -implicitDefEqProofs (maxSteps := 1000000) (disch := first | omega | (simp only [LN]; omega)) only [go_sem]) <;> (try omega)
      case h0_4 => exact Nat.zero_le _
      case round_4 =>
       intro i hi
       have v3 : IntKind.i64.wrap ((i : Int) + 1) = ((i + 1 : Nat) : Int) := by rw [IntKind.wrap_i64]; push_cast; omega
       by_cases hi2 : i < T.length
       ·have hqm : T.getD i default ∈ T := by rw [List.getD_eq_getElem?_getD, List.getElem?_eq_getElem hi2]; exact List.getElem_mem hi2
        have hql := hT2 _ hqm
        generalize hqq : T.getD i default = q at *
        have kq := kP q (by omega)
        have hin := inB_n q (TL A k)
        rw [hkl] at hin
        rw [← hin] at kq
        repeat' (first
         | (with_reducible first | refine r_seq ?_ | refine r_block ?_ | refine fork_not ?_ | refine fork_and ?_ | refine fork_or ?_ | refine chk_ok (by kernel_rfl) ?_)
         | ((with_reducible first | refine fork_dec ?_ ?_ | refine fork_eq ?_ ?_ | refine fork_ne ?_ ?_ | refine fork_intro ?_ ?_) <;> intro h <;> try (exfalso; first | omega | exact h rfl | (revert h; decide) | (cases h; done)))
         | ((with_reducible show False); omega)
         | ((first | (with_reducible first | refine r_exit ?_ | refine r_skip ?_ | refine r_cond ?_ | refine r_region ?_ | refine r_ret ?_ | show VX _ _ _ _ _ _ _ | show vstep _ _ _ _ _ | show vskip _ _ _ | show withV _ _) | ((with_reducible show endA _ _ _ _ _ _ _); simp -implicitDefEqProofs only [endA]) | (with_reducible first | refine pick_viewG default (by first | omega | (simp only [LN, hqq]; omega)) (by first | omega | (simp only [LN, hqq]; omega)) ?_ | refine pick_own default (by first | omega | (simp only [LN, hqq]; omega)) ?_ | refine And.intro (by first | decide | omega | assumption | (simp only [LN, hqq]; omega)) ?_) | ((with_reducible show pickE _ _ _); first | refine pickE_intro _ ⟨by omega, by rfl⟩ ?_ | refine pickE_intro _ (by rfl) ?_) | fail); try simp -dsimp -implicitDefEqProofs (maxSteps := 1000000) (disch := first | omega | (simp only [LN, hqq]; omega)) only [go_sem, hqq])
         | fail)
        refine r_loopA (α := Nat) [7, 10, 28, 158, 159, 160, 164, 165] (fun j b => [(29, .p (.v (.bool (inB q (TL A k) j)))), (166, aI j)]) (fun j b => []) (fun j => []) (fun j => j ≤ k) (fun j => k - j) (0) ?h0_5 ?hs0_5 ?I_5 ?hI_5 ?round_5
        case hI_5 => intro x; (simp -dsimp -implicitDefEqProofs (maxSteps := 1000000) (disch := first | omega | (simp only [LN]; omega)) only [go_sem]) <;> exact rfl
        case hs0_5 => refine wk_auto ?_; (simp -dsimp -implicitDefEqProofs (maxSteps := 1000000) (disch := first | omega | (simp only [LN, inB_0]; omega)) only [go_sem, inB_0]) <;> (try omega)
        case h0_5 => exact Nat.zero_le _
        case round_5 =>
         intro j hj
         have u3 : IntKind.i64.wrap ((j : Int) + 1) = ((j + 1 : Nat) : Int) := by rw [IntKind.wrap_i64]; push_cast; omega
         by_cases hj2 : j < k
         ·have hs := inB_s q (TL A k) (show j < (TL A k).length by omega)
          generalize hyy : (TL A k).getD j default = y at *
          have k21 := c21 q y
          cases hb : inB q (TL A k) j with
          | true =>
           rw [hb, Bool.true_or] at hs
           repeat' (first
            | (with_reducible first | refine r_seq ?_ | refine r_block ?_ | refine fork_not ?_ | refine fork_and ?_ | refine fork_or ?_ | refine chk_ok (by kernel_rfl) ?_)
            | ((with_reducible first | refine fork_dec ?_ ?_ | refine fork_eq ?_ ?_ | refine fork_ne ?_ ?_ | refine fork_intro ?_ ?_) <;> intro h <;> try (exfalso; first | omega | exact h rfl | (revert h; decide) | (cases h; done)))
            | ((with_reducible show False); omega)
            | ((first | (with_reducible first | refine r_exit ?_ | refine r_skip ?_ | refine r_cond ?_ | refine r_region ?_ | refine r_ret ?_ | show VX _ _ _ _ _ _ _ | show vstep _ _ _ _ _ | show vskip _ _ _ | show withV _ _) | ((with_reducible show endA _ _ _ _ _ _ _); simp -implicitDefEqProofs only [endA]) | (with_reducible first | refine pick_viewG default (by first | omega | (simp only [LN, hyy, hb]; omega)) (by first | omega | (simp only [LN, hyy, hb]; omega)) ?_ | refine pick_own default (by first | omega | (simp only [LN, hyy, hb]; omega)) ?_ | refine And.intro (by first | decide | omega | assumption | (simp only [LN, hyy, hb]; omega)) ?_) | ((with_reducible apply callK_pure); (exact k21)) | ((with_reducible apply callF_lend); (exact k21); rfl) | ((with_reducible apply callF_go); (exact k21)) | ((with_reducible show pickE _ _ _); first | refine pickE_intro _ ⟨by omega, by rfl⟩ ?_ | refine pickE_intro _ (by rfl) ?_) | fail); try simp -dsimp -implicitDefEqProofs (maxSteps := 1000000) (disch := first | omega | (simp only [LN, hyy, hb]; omega)) only [go_sem, hyy, hb])
            | fail)
           all_goals first | omega | ((refine loopQ_next (j + 1) ?_ ?_ ?_; (omega); (show _ < _; omega); (simp -dsimp -implicitDefEqProofs (maxSteps := 1000000) (disch := first | omega | (simp only [LN, u3, hs]; omega)) only [go_sem, u3, hs]; try trivial)))
          | false =>
           rw [hb, Bool.false_or] at hs
           repeat' (first
            | (with_reducible first | refine r_seq ?_ | refine r_block ?_ | refine fork_not ?_ | refine fork_and ?_ | refine fork_or ?_ | refine chk_ok (by kernel_rfl) ?_)
            | ((with_reducible first | refine fork_dec ?_ ?_ | refine fork_eq ?_ ?_ | refine fork_ne ?_ ?_ | refine fork_intro ?_ ?_) <;> intro h <;> try (exfalso; first | omega | exact h rfl | (revert h; decide) | (cases h; done)))
            | ((with_reducible show False); omega)
            | ((first | (with_reducible first | refine r_exit ?_ | refine r_skip ?_ | refine r_cond ?_ | refine r_region ?_ | refine r_ret ?_ | show VX _ _ _ _ _ _ _ | show vstep _ _ _ _ _ | show vskip _ _ _ | show withV _ _) | ((with_reducible show endA _ _ _ _ _ _ _); simp -implicitDefEqProofs only [endA]) | (with_reducible first | refine pick_viewG default (by first | omega | (simp only [LN, hyy, hb]; omega)) (by first | omega | (simp only [LN, hyy, hb]; omega)) ?_ | refine pick_own default (by first | omega | (simp only [LN, hyy, hb]; omega)) ?_ | refine And.intro (by first | decide | omega | assumption | (simp only [LN, hyy, hb]; omega)) ?_) | ((with_reducible apply callK_pure); (exact k21)) | ((with_reducible apply callF_lend); (exact k21); rfl) | ((with_reducible apply callF_go); (exact k21)) | ((with_reducible show pickE _ _ _); first | refine pickE_intro _ ⟨by omega, by rfl⟩ ?_ | refine pickE_intro _ (by rfl) ?_) | fail); try simp -dsimp -implicitDefEqProofs (maxSteps := 1000000) (disch := first | omega | (simp only [LN, hyy, hb]; omega)) only [go_sem, hyy, hb])
            | fail)
           all_goals first | omega | ((refine loopQ_next (j + 1) ?_ ?_ ?_; (omega); (show _ < _; omega); (simp -dsimp -implicitDefEqProofs (maxSteps := 1000000) (disch := first | omega | (simp only [LN, u3, hs]; omega)) only [go_sem, u3, hs]; try trivial)))
         ·obtain rfl : j = k := by omega
          generalize inB q (TL A j) j = bb at *
          repeat' (first
           | (with_reducible first | refine r_seq ?_ | refine r_block ?_ | refine fork_not ?_ | refine fork_and ?_ | refine fork_or ?_ | refine chk_ok (by kernel_rfl) ?_)
           | ((with_reducible first | refine fork_dec ?_ ?_ | refine fork_eq ?_ ?_ | refine fork_ne ?_ ?_ | refine fork_intro ?_ ?_) <;> intro h <;> try (exfalso; first | omega | exact h rfl | (revert h; decide) | (cases h; done)))
           | ((with_reducible show False); omega)
           | ((first | (with_reducible first | refine r_exit ?_ | refine r_skip ?_ | refine r_cond ?_ | refine r_region ?_ | refine r_ret ?_ | show VX _ _ _ _ _ _ _ | show vstep _ _ _ _ _ | show vskip _ _ _ | show withV _ _) | ((with_reducible show endA _ _ _ _ _ _ _); simp -implicitDefEqProofs only [endA]) | (with_reducible first | refine pick_viewG default (by first | omega | (simp only [LN, bne_self_eq_false]; omega)) (by first | omega | (simp only [LN, bne_self_eq_false]; omega)) ?_ | refine pick_own default (by first | omega | (simp only [LN, bne_self_eq_false]; omega)) ?_ | refine And.intro (by first | decide | omega | assumption | (simp only [LN, bne_self_eq_false]; omega)) ?_) | (with_reducible first | apply callK_lent | apply callF_lent | apply hideP_own) | ((with_reducible apply callA_go); (first | exact kq | fail)) | ((with_reducible show pickE _ _ _); first | refine pickE_intro _ ⟨by omega, by rfl⟩ ?_ | refine pickE_intro _ (by rfl) ?_) | fail); try simp -dsimp -implicitDefEqProofs (maxSteps := 1000000) (disch := first | omega | (simp only [LN, bne_self_eq_false]; omega)) only [go_sem, bne_self_eq_false])
           | fail)
          all_goals first | omega | ((refine loopQ_next (i + 1) ?_ ?_ ?_; (omega); (show _ < _; omega); (simp -dsimp -implicitDefEqProofs (maxSteps := 1000000) (disch := first | omega | (simp only [LN, v3]; omega)) only [go_sem, v3]; try trivial)))
       ·obtain rfl : i = T.length := by omega
        repeat' (first
         | (with_reducible first | refine r_seq ?_ | refine r_block ?_ | refine fork_not ?_ | refine fork_and ?_ | refine fork_or ?_ | refine chk_ok (by kernel_rfl) ?_)
         | ((with_reducible first | refine fork_dec ?_ ?_ | refine fork_eq ?_ ?_ | refine fork_ne ?_ ?_ | refine fork_intro ?_ ?_) <;> intro h <;> try (exfalso; first | omega | exact h rfl | (revert h; decide) | (cases h; done)))
         | ((with_reducible show False); omega)
         | ((first | (with_reducible first | refine r_exit ?_ | refine r_skip ?_ | refine r_cond ?_ | refine r_region ?_ | refine r_ret ?_ | show VX _ _ _ _ _ _ _ | show vstep _ _ _ _ _ | show vskip _ _ _ | show withV _ _) | ((with_reducible show endA _ _ _ _ _ _ _); simp -implicitDefEqProofs only [endA]) | (with_reducible first | refine pick_viewG default (by first | omega | (simp only [LN]; omega)) (by first | omega | (simp only [LN]; omega)) ?_ | refine pick_own default (by first | omega | (simp only [LN]; omega)) ?_ | refine And.intro (by first | decide | omega | assumption | (simp only [LN]; omega)) ?_) | ((with_reducible show pickE _ _ _); first | refine pickE_intro _ ⟨by omega, by rfl⟩ ?_ | refine pickE_intro _ (by rfl) ?_) | fail); try simp -dsimp -implicitDefEqProofs (maxSteps := 1000000) (disch := first | omega | (simp only [LN]; omega)) only [go_sem])
         | fail)
        all_goals first | omega
 ·repeat' (first
   | (with_reducible first | refine r_seq ?_ | refine r_block ?_ | refine fork_not ?_ | refine fork_and ?_ | refine fork_or ?_ | refine chk_ok (by kernel_rfl) ?_)
   | ((with_reducible first | refine fork_dec ?_ ?_ | refine fork_eq ?_ ?_ | refine fork_ne ?_ ?_ | refine fork_intro ?_ ?_) <;> intro h <;> try (exfalso; first | omega | exact h rfl | (revert h; decide) | (cases h; done)))
   | ((with_reducible show False); omega)
   | ((first | (with_reducible first | refine r_exit ?_ | refine r_skip ?_ | refine r_cond ?_ | refine r_region ?_ | refine r_ret ?_ | show VX _ _ _ _ _ _ _ | show vstep _ _ _ _ _ | show vskip _ _ _ | show withV _ _) | ((with_reducible show endA _ _ _ _ _ _ _); simp -implicitDefEqProofs only [endA]) | (with_reducible first | refine pick_viewG default (by first | omega | (simp only [LN]; omega)) (by first | omega | (simp only [LN]; omega)) ?_ | refine pick_own default (by first | omega | (simp only [LN]; omega)) ?_ | refine And.intro (by first | decide | omega | assumption | (simp only [LN]; omega)) ?_) | (with_reducible first | apply callK_lent | apply callF_lent | apply hideP_own) | ((with_reducible apply callA_go); (first | exact k1 | fail)) | ((with_reducible show pickE _ _ _); first | refine pickE_intro _ ⟨by omega, by rfl⟩ ?_ | refine pickE_intro _ (by rfl) ?_) | fail); try simp -dsimp -implicitDefEqProofs (maxSteps := 1000000) (disch := first | omega | (simp only [LN]; omega)) only [go_sem])
   | fail)
  all_goals first | omega | (rw [decide_eq_true (by omega)]; done)
end Go.Proofs.Ytlldhofcdfejnaa