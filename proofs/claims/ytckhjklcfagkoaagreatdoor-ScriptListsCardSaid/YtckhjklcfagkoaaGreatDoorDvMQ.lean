/- Contracts of functions of this program, and the plain facts that they rest on. No conditions. -/
import Derived.Test.YtckhjklcfagkoaaGreatDoorDvLQ
set_option linter.unusedSimpArgs false
set_option linter.unusedVariables false
namespace Go.Proofs.YtckhjklcfagkoaaGreatDoor
open Go Go.Ab
attribute [local irreducible] callK callF loopQ vstep vskip pickE hideP
set_option maxRecDepth 100000
attribute [local go_sem] eU eNd deO peO cuO liO thO hiO noO
def eC (b : UInt8) : PV := .v (.int .u8 b.toNat)
attribute [local go_sem] eC
set_option maxRecDepth 100000 in
set_option maxHeartbeats 4000000 in
theorem dClone (l : List Int) (h : 0 < l.length ∧ l.length ≤ 1000000) : ACalls Tryz.prog 63 [.sl 0 1 0 l.length] [.arr 1 (l.map eU)] (.sl 1 1 0 l.length) [.arr 1 (l.map eU), .arr 1 (l.map eU)] := by
 refine acalls_of (E := E) (fn := Tryz.f63) 8 [.tmp 2] rfl rfl rfl rfl (by decide) rfl rfl ?_
 repeat' (first
  | (with_reducible first | refine r_seq ?_ | refine r_block ?_ | refine fork_not ?_ | refine fork_and ?_ | refine fork_or ?_ | refine chk_ok (by kernel_rfl) ?_)
  | ((with_reducible first | refine fork_dec ?_ ?_ | refine fork_eq ?_ ?_ | refine fork_ne ?_ ?_ | refine fork_intro ?_ ?_) <;> intro h)
  | ((with_reducible show False); omega)
  | ((first | (with_reducible first | refine r_exit ?_ | refine r_skip ?_ | refine r_cond ?_ | refine r_region ?_ | refine r_ret ?_ | show VX _ _ _ _ _ _ _ | show vstep _ _ _ _ _ | show vskip _ _ _ | show withV _ _) | ((with_reducible show endA _ _ _ _ _ _ _); simp -implicitDefEqProofs only [endA]) | (with_reducible first | refine pick_viewG default (by first | omega | (simp only [LN]; omega)) (by first | omega | (simp only [LN]; omega)) ?_ | refine pick_own default (by first | omega | (simp only [LN]; omega)) ?_ | refine And.intro (by first | decide | omega | assumption | (simp only [LN]; omega)) ?_) | ((with_reducible show pickE _ _ _); first | refine pickE_intro _ ⟨by omega, by rfl⟩ ?_ | refine pickE_intro _ (by rfl) ?_) | fail); try simp -dsimp -implicitDefEqProofs (maxSteps := 1000000) (disch := first | omega | (simp only [LN]; omega)) only [go_sem])
  | fail)
def kI (A : Dv) (c : List UInt8) (i : Nat) : Nat := (c.getD (i % c.length) default).toNat % ((A.hist ((dirL A A.n).getD i default)).length + 1)
def imgW (A : Dv) (c : List UInt8) : Nat → List Int
 | 0 => A.per
 | i + 1 => appL (imgW A c i) ((A.hist ((dirL A A.n).getD i default)).take (kI A c i))
theorem imgW_len (A : Dv) (c : List UInt8) : ∀ i, (imgW A c i).length = A.per.length
 | 0 => rfl
 | i + 1 => by rw [imgW, appL_len, imgW_len A c i]
theorem dirL_lt (A : Dv) (i : Nat) (h : i < (dirL A A.n).length) : (dirL A A.n).getD i default < A.n := by
 rw [List.getD_eq_getElem?_getD, List.getElem?_eq_getElem h]
 have := List.getElem_mem h
 generalize (dirL A A.n)[i] = x at *
 unfold dirL at this
 rw [List.mem_filter, List.mem_range] at this
 exact this.1
set_option maxRecDepth 100000 in
set_option maxHeartbeats 4000000 in
theorem dImage6 (A : Dv) (J : Nat → List (Int × Int)) (h : WF A) (hj : ∀ r, r < 6 → (jk A J r).length ≤ 1000000000) (c : List UInt8) (hc : 0 < c.length ∧ c.length ≤ 100000) : ACalls Tryz.prog 83 [.loc 0 0, .p (.view 1 (c.map eC))] [deO A 1 2 3 4, peO A, cuO A, liO A J 12, thO A 0 0 18, thO A 1 0 18, thO A 2 0 18, thO A 3 0 18, thO A 4 0 18, thO A 5 0 18, thO A 6 0 18, thO A 7 0 18, hiO A J 0, hiO A J 1, hiO A J 2, hiO A J 3, hiO A J 4, hiO A J 5, noO A 0, noO A 1, noO A 2, noO A 3, noO A 4, noO A 5, noO A 6, noO A 7] (.sl 26 1 0 (64 * A.n)) [deO A 1 2 3 4, peO A, cuO A, liO A J 12, thO A 0 0 18, thO A 1 0 18, thO A 2 0 18, thO A 3 0 18, thO A 4 0 18, thO A 5 0 18, thO A 6 0 18, thO A 7 0 18, hiO A J 0, hiO A J 1, hiO A J 2, hiO A J 3, hiO A J 4, hiO A J 5, noO A 0, noO A 1, noO A 2, noO A 3, noO A 4, noO A 5, noO A 6, noO A 7, .arr 1 (byL (imgW A c (dirL A A.n).length) (64 * A.n) (64 * A.n))] := by
 refine acalls_of (E := E) (fn := Tryz.f83) 56 [.tmp 4] rfl rfl rfl rfl (by decide) rfl rfl ?_
 have h6 := h.n6
 have h0 := h.n0
 have hp := h.per
 have k75 := dClone A.per (by omega)
 rw [hp] at k75
 have kd := dDirty6 A J h
 have hdl := dirL_len A A.n
 have hln := h.len
 have hhs := h.hist
 repeat' (first
  | (with_reducible first | refine r_seq ?_ | refine r_block ?_ | refine fork_not ?_ | refine fork_and ?_ | refine fork_or ?_ | refine chk_ok (by kernel_rfl) ?_)
  | ((with_reducible first | refine fork_dec ?_ ?_ | refine fork_eq ?_ ?_ | refine fork_ne ?_ ?_ | refine fork_intro ?_ ?_) <;> intro h <;> try (exfalso; first | omega | exact h rfl | (revert h; decide) | (cases h; done)))
  | ((with_reducible show False); omega)
  | ((first | (with_reducible first | refine r_exit ?_ | refine r_skip ?_ | refine r_cond ?_ | refine r_region ?_ | refine r_ret ?_ | show VX _ _ _ _ _ _ _ | show vstep _ _ _ _ _ | show vskip _ _ _ | show withV _ _) | ((with_reducible show endA _ _ _ _ _ _ _); simp -implicitDefEqProofs only [endA]) | (with_reducible first | refine pick_viewG default (by first | omega | (simp only [LN]; omega)) (by first | omega | (simp only [LN]; omega)) ?_ | refine pick_own default (by first | omega | (simp only [LN]; omega)) ?_ | refine And.intro (by first | decide | omega | assumption | (simp only [LN]; omega)) ?_) | (with_reducible first | apply callK_lent | apply callF_lent | apply hideP_own) | ((with_reducible apply callA_go); (first | exact k75 | exact kd | fail)) | ((with_reducible show pickE _ _ _); first | refine pickE_intro _ ⟨by omega, by rfl⟩ ?_ | refine pickE_intro _ (by rfl) ?_) | fail); try simp -dsimp -implicitDefEqProofs (maxSteps := 1000000) (disch := first | omega | (simp only [LN]; omega)) only [go_sem])
  | fail)
 all_goals try omega
 refine r_loopA (α := Nat) [0, 1, 5, 21, 22] (fun i b => [(23, aI i)]) (fun i b => [(5, .arr 1 ((imgW A c i).map eU))]) (fun i => []) (fun i => i ≤ (dirL A A.n).length) (fun i => (dirL A A.n).length - i) (0) ?h0_1 ?hs0_1 ?I_1 ?hI_1 ?round_1
 case hI_1 => intro x; (simp -dsimp -implicitDefEqProofs (maxSteps := 1000000) (disch := first | omega | (simp only [LN]; omega)) only [go_sem]) <;> exact rfl
 case hs0_1 => refine wk_auto ?_; (simp -dsimp -implicitDefEqProofs (maxSteps := 1000000) (disch := first | omega | (simp only [LN, show imgW A c 0 = A.per from rfl]; omega)) only [go_sem, show imgW A c 0 = A.per from rfl]) <;> (try omega)
 case h0_1 => exact Nat.zero_le _
 case round_1 =>
  intro i h1
  by_cases hi : i < (dirL A A.n).length
  ·have hr := dirL_lt A i hi
   have hst : imgW A c (i + 1) = appL (imgW A c i) ((A.hist ((dirL A A.n).getD i default)).take (kI A c i)) := rfl
   have hk0 : kI A c i = (c.getD (i % c.length) default).toNat % ((A.hist ((dirL A A.n).getD i default)).length + 1) := rfl
   obtain ⟨r, hre⟩ : ∃ r, r = (dirL A A.n).getD i default := ⟨_, rfl⟩
   rw [← hre] at hr hst hk0
   have hre := hre.symm
   have hl := hln r (by omega)
   have hh := hhs r (by omega)
   have hkl : kI A c i ≤ (A.hist r).length := by rw [hk0]; have := Nat.mod_lt (c.getD (i % c.length) default).toNat (show 0 < (A.hist r).length + 1 by omega); omega
   have e1 : (i : Int).tmod c.length = ((i % c.length : Nat) : Int) := (Int.ofNat_tmod _ _).symm
   have e2 : i % c.length < c.length := Nat.mod_lt _ hc.1
   have e3 : IntKind.i64.wrap ((c.getD (i % c.length) default).toNat : Int) = ((c.getD (i % c.length) default).toNat : Int) := by
    have := (c.getD (i % c.length) default).toNat_lt; rw [IntKind.wrap_i64]; omega
   have e4 : IntKind.i64.wrap (((A.hist r).length : Int) + 1) = (((A.hist r).length + 1 : Nat) : Int) := by rw [IntKind.wrap_i64]; omega
   have e5 : ((c.getD (i % c.length) default).toNat : Int).tmod (((A.hist r).length + 1 : Nat) : Int) = ((kI A c i : Nat) : Int) := by rw [hk0]; exact (Int.ofNat_tmod _ _).symm
   have e6 : ((c.getD (i % c.length) default).toNat : Int).tmod (((A.hist r).length : Int) + 1) = ((kI A c i : Nat) : Int) := e5
   have hil := imgW_len A c i
   rw [hp] at hil
   have ka := dApply (imgW A c i) (jk A J r) (A.hist r) (8 * A.n) (jk A J r).length (kI A c i) hil rfl hkl (by omega) (fun x hx => by have := hh x hx; omega)
   have hjr := hj r (by omega)
   have hs : r = 0 ∨ r = 1 ∨ r = 2 ∨ r = 3 ∨ r = 4 ∨ r = 5 := by omega
   rcases hs with rfl | rfl | rfl | rfl | rfl | rfl
   all_goals
    repeat' (first
     | (with_reducible first | refine r_seq ?_ | refine r_block ?_ | refine fork_not ?_ | refine fork_and ?_ | refine fork_or ?_ | refine chk_ok (by kernel_rfl) ?_)
     | ((with_reducible first | refine fork_dec ?_ ?_ | refine fork_eq ?_ ?_ | refine fork_ne ?_ ?_ | refine fork_intro ?_ ?_) <;> intro h <;> try (exfalso; first | omega | exact h rfl | (revert h; decide) | (cases h; done)))
     | ((with_reducible show False); omega)
     | ((first | (with_reducible first | refine r_exit ?_ | refine r_skip ?_ | refine r_cond ?_ | refine r_region ?_ | refine r_ret ?_ | show VX _ _ _ _ _ _ _ | show vstep _ _ _ _ _ | show vskip _ _ _ | show withV _ _) | ((with_reducible show endA _ _ _ _ _ _ _); simp -implicitDefEqProofs only [endA]) | (with_reducible first | refine pick_viewG default (by first | omega | (simp only [LN, e1, e2, e3, e4, e5, e6, hre]; omega)) (by first | omega | (simp only [LN, e1, e2, e3, e4, e5, e6, hre]; omega)) ?_ | refine pick_own default (by first | omega | (simp only [LN, e1, e2, e3, e4, e5, e6, hre]; omega)) ?_ | refine And.intro (by first | decide | omega | assumption | (simp only [LN, e1, e2, e3, e4, e5, e6, hre]; omega)) ?_) | (with_reducible first | apply callK_lent | apply callF_lent | apply hideP_own) | ((with_reducible apply callA_go); (first | exact ka | fail)) | ((with_reducible show pickE _ _ _); first | refine pickE_intro _ ⟨by omega, by rfl⟩ ?_ | refine pickE_intro _ (by rfl) ?_) | fail); try simp -dsimp -implicitDefEqProofs (maxSteps := 1000000) (disch := first | omega | (simp only [LN, e1, e2, e3, e4, e5, e6, hre]; omega)) only [go_sem, e1, e2, e3, e4, e5, e6, hre])
     | fail)
    all_goals try omega
    refine And.intro (by split <;> (simp <;> omega)) ?_
    repeat' (first
     | (with_reducible first | refine r_seq ?_ | refine r_block ?_ | refine fork_not ?_ | refine fork_and ?_ | refine fork_or ?_ | refine chk_ok (by kernel_rfl) ?_)
     | ((with_reducible first | refine fork_dec ?_ ?_ | refine fork_eq ?_ ?_ | refine fork_ne ?_ ?_ | refine fork_intro ?_ ?_) <;> intro h <;> try (exfalso; first | omega | exact h rfl | (revert h; decide) | (cases h; done)))
     | ((with_reducible show False); omega)
     | ((first | (with_reducible first | refine r_exit ?_ | refine r_skip ?_ | refine r_cond ?_ | refine r_region ?_ | refine r_ret ?_ | show VX _ _ _ _ _ _ _ | show vstep _ _ _ _ _ | show vskip _ _ _ | show withV _ _) | ((with_reducible show endA _ _ _ _ _ _ _); simp -implicitDefEqProofs only [endA]) | (with_reducible first | refine pick_viewG default (by first | omega | (simp only [LN, e1, e2, e3, e4, e5, e6, hre]; omega)) (by first | omega | (simp only [LN, e1, e2, e3, e4, e5, e6, hre]; omega)) ?_ | refine pick_own default (by first | omega | (simp only [LN, e1, e2, e3, e4, e5, e6, hre]; omega)) ?_ | refine And.intro (by first | decide | omega | assumption | (simp only [LN, e1, e2, e3, e4, e5, e6, hre]; omega)) ?_) | (with_reducible first | apply callK_lent | apply callF_lent | apply hideP_own) | ((with_reducible apply callA_go); (first | exact ka | fail)) | ((with_reducible show pickE _ _ _); first | refine pickE_intro _ ⟨by omega, by rfl⟩ ?_ | refine pickE_intro _ (by rfl) ?_) | fail); try simp -dsimp -implicitDefEqProofs (maxSteps := 1000000) (disch := first | omega | (simp only [LN, e1, e2, e3, e4, e5, e6, hre]; omega)) only [go_sem, e1, e2, e3, e4, e5, e6, hre])
     | fail)
    all_goals first | omega | (refine loopQ_next (i + 1) ?_ ?_ ?_; (omega); (show _ < _; omega); (simp -dsimp -implicitDefEqProofs (maxSteps := 1000000) (disch := first | omega | (simp only [LN, hst]; omega)) only [go_sem, hst]; try trivial))
  ·obtain rfl : i = (dirL A A.n).length := by omega
   have hil := imgW_len A c (dirL A A.n).length
   rw [hp] at hil
   have kb := dBytes (imgW A c (dirL A A.n).length) (by omega)
   rw [hil, show 8 * (8 * A.n) = 64 * A.n by omega] at kb
   repeat' (first
    | (with_reducible first | refine r_seq ?_ | refine r_block ?_ | refine fork_not ?_ | refine fork_and ?_ | refine fork_or ?_ | refine chk_ok (by kernel_rfl) ?_)
    | ((with_reducible first | refine fork_dec ?_ ?_ | refine fork_eq ?_ ?_ | refine fork_ne ?_ ?_ | refine fork_intro ?_ ?_) <;> intro h <;> try (exfalso; first | omega | exact h rfl | (revert h; decide) | (cases h; done)))
    | ((with_reducible show False); omega)
    | ((first | (with_reducible first | refine r_exit ?_ | refine r_skip ?_ | refine r_cond ?_ | refine r_region ?_ | refine r_ret ?_ | show VX _ _ _ _ _ _ _ | show vstep _ _ _ _ _ | show vskip _ _ _ | show withV _ _) | ((with_reducible show endA _ _ _ _ _ _ _); simp -implicitDefEqProofs only [endA]) | (with_reducible first | refine pick_viewG default (by first | omega | (simp only [LN]; omega)) (by first | omega | (simp only [LN]; omega)) ?_ | refine pick_own default (by first | omega | (simp only [LN]; omega)) ?_ | refine And.intro (by first | decide | omega | assumption | (simp only [LN]; omega)) ?_) | (with_reducible first | apply callK_lent | apply callF_lent | apply hideP_own) | ((with_reducible apply callA_go); (first | exact kb | fail)) | ((with_reducible show pickE _ _ _); first | refine pickE_intro _ ⟨by omega, by rfl⟩ ?_ | refine pickE_intro _ (by rfl) ?_) | fail); try simp -dsimp -implicitDefEqProofs (maxSteps := 1000000) (disch := first | omega | (simp only [LN]; omega)) only [go_sem])
    | fail)
   all_goals first | omega | rfl
end Go.Proofs.YtckhjklcfagkoaaGreatDoor