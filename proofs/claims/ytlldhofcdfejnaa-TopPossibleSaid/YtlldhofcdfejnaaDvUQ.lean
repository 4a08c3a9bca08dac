/- Contracts of functions of this program, and the plain facts that they rest on. No conditions. -/
import Derived.Test.YtlldhofcdfejnaaDvSQ
import Derived.Test.YtlldhofcdfejnaaDvHQ
set_option linter.unusedSimpArgs false
set_option linter.unusedVariables false
namespace Go.Proofs.Ytlldhofcdfejnaa
open Go Go.Ab
attribute [local irreducible] callK callF loopQ vstep vskip pickE hideP
set_option maxRecDepth 100000
attribute [local go_sem] eU deO peO cuO liO thO hiO noO
set_option maxRecDepth 100000 in
set_option maxHeartbeats 4000000 in
theorem dNew6 (n : Nat) (hn : 0 < n ∧ n ≤ 6) : ACalls Try.prog 13 [.p (.v (.int .i64 n))] [] (.tup [.loc 0 0, .p (.v (.int .i64 0))]) [deO (Dv.fresh n (List.replicate (8 * n) 0)) 1 2 3 4, peO (Dv.fresh n (List.replicate (8 * n) 0)), cuO (Dv.fresh n (List.replicate (8 * n) 0)), liO (Dv.fresh n (List.replicate (8 * n) 0)) J0 12, thO (Dv.fresh n (List.replicate (8 * n) 0)) 0 0 18, thO (Dv.fresh n (List.replicate (8 * n) 0)) 1 0 18, thO (Dv.fresh n (List.replicate (8 * n) 0)) 2 0 18, thO (Dv.fresh n (List.replicate (8 * n) 0)) 3 0 18, thO (Dv.fresh n (List.replicate (8 * n) 0)) 4 0 18, thO (Dv.fresh n (List.replicate (8 * n) 0)) 5 0 18, thO (Dv.fresh n (List.replicate (8 * n) 0)) 6 0 18, thO (Dv.fresh n (List.replicate (8 * n) 0)) 7 0 18, hiO (Dv.fresh n (List.replicate (8 * n) 0)) J0 0, hiO (Dv.fresh n (List.replicate (8 * n) 0)) J0 1, hiO (Dv.fresh n (List.replicate (8 * n) 0)) J0 2, hiO (Dv.fresh n (List.replicate (8 * n) 0)) J0 3, hiO (Dv.fresh n (List.replicate (8 * n) 0)) J0 4, hiO (Dv.fresh n (List.replicate (8 * n) 0)) J0 5, noO (Dv.fresh n (List.replicate (8 * n) 0)) 0, noO (Dv.fresh n (List.replicate (8 * n) 0)) 1, noO (Dv.fresh n (List.replicate (8 * n) 0)) 2, noO (Dv.fresh n (List.replicate (8 * n) 0)) 3, noO (Dv.fresh n (List.replicate (8 * n) 0)) 4, noO (Dv.fresh n (List.replicate (8 * n) 0)) 5, noO (Dv.fresh n (List.replicate (8 * n) 0)) 6, noO (Dv.fresh n (List.replicate (8 * n) 0)) 7] := by
 refine acalls_of (E := E) (fn := Try.f13) 14 [.tmp 2, .tmp 3] rfl rfl rfl rfl (by decide) rfl rfl ?_
 have e1 : IntKind.i64.wrap ((n : Int) * 8) = ((8 * n : Nat) : Int) := by rw [IntKind.wrap_i64]; omega
 have e2 : (n : Int) * 8 = ((8 * n : Nat) : Int) := by omega
 have e3 : List.replicate (8 * n) (PV.v (.int .u64 0)) = (List.replicate (8 * n) (0 : Int)).map eU := by simp [eU]
 repeat' (first
  | (with_reducible first | refine r_seq ?_ | refine r_block ?_ | refine fork_not ?_ | refine fork_and ?_ | refine fork_or ?_ | refine chk_ok (by kernel_rfl) ?_)
  | ((with_reducible first | refine fork_dec ?_ ?_ | refine fork_eq ?_ ?_ | refine fork_ne ?_ ?_ | refine fork_intro ?_ ?_) <;> intro h <;> try (exfalso; first | omega | exact h rfl | (revert h; decide) | (cases h; done)))
  | ((with_reducible show False); omega)
  | ((first | (with_reducible first | refine r_exit ?_ | refine r_skip ?_ | refine r_cond ?_ | refine r_region ?_ | refine r_ret ?_ | show VX _ _ _ _ _ _ _ | show vstep _ _ _ _ _ | show vskip _ _ _ | show withV _ _) | ((with_reducible show endA _ _ _ _ _ _ _); simp -implicitDefEqProofs only [endA]) | (with_reducible first | refine pick_viewG default (by first | omega | (simp only [LN, e1, e2, e3, List.length_replicate]; omega)) (by first | omega | (simp only [LN, e1, e2, e3, List.length_replicate]; omega)) ?_ | refine pick_own default (by first | omega | (simp only [LN, e1, e2, e3, List.length_replicate]; omega)) ?_ | refine And.intro (by first | decide | omega | assumption | (simp only [LN, e1, e2, e3, List.length_replicate]; omega)) ?_) | (with_reducible first | apply callK_lent | apply callF_lent | apply hideP_own) | ((with_reducible apply callA_go); (first | exact dOf6 (List.replicate (8 * n) 0) n (by simp) hn | fail)) | ((with_reducible show pickE _ _ _); first | refine pickE_intro _ ⟨by omega, by rfl⟩ ?_ | refine pickE_intro _ (by rfl) ?_) | fail); try simp -dsimp -implicitDefEqProofs (maxSteps := 1000000) (disch := first | omega | (simp only [LN, e1, e2, e3, List.length_replicate]; omega)) only [go_sem, e1, e2, e3, List.length_replicate])
  | fail)
 all_goals first | omega | (simp [Dv.fresh, jk]; done)
def Dv.wbB (A : Dv) (r k : Int) : Bool := !A.off && decide ((0 ≤ r ∧ r < A.n) ∧ 0 ≤ k ∧ k ≤ (A.hist r.toNat).length)
def Dv.wb (A : Dv) (r k : Int) : Dv := if A.wbB r k = true then A.persist r.toNat k.toNat else A
def jwb (A : Dv) (J : Nat → List (Int × Int)) (r k : Int) : Nat → List (Int × Int) := if A.wbB r k = true then jper A J r.toNat k.toNat else J
set_option maxRecDepth 100000 in
set_option maxHeartbeats 4000000 in
theorem dWriteBack1 (A : Dv) (J : Nat → List (Int × Int)) (h : WF A) (hj : ∀ r, r < 6 → (jk A J r).length ≤ 1000000000) (r k : Nat) (ho : A.off = false) (hr : r < A.n) (hk : k ≤ (A.hist r).length) : ACalls Try.prog 17 [.loc 0 0, .p (.v (.int .i64 r)), .p (.v (.int .i64 k))] [deO A 1 2 3 4, peO A, cuO A, liO A J 12, thO A 0 0 18, thO A 1 0 18, thO A 2 0 18, thO A 3 0 18, thO A 4 0 18, thO A 5 0 18, thO A 6 0 18, thO A 7 0 18, hiO A J 0, hiO A J 1, hiO A J 2, hiO A J 3, hiO A J 4, hiO A J 5, noO A 0, noO A 1, noO A 2, noO A 3, noO A 4, noO A 5, noO A 6, noO A 7] (.p (.v (.bool true))) [deO (A.persist r k) 1 2 3 4, peO (A.persist r k), cuO (A.persist r k), liO (A.persist r k) (jper A J r k) 26, thO (A.persist r k) 0 0 18, thO (A.persist r k) 1 0 18, thO (A.persist r k) 2 0 18, thO (A.persist r k) 3 0 18, thO (A.persist r k) 4 0 18, thO (A.persist r k) 5 0 18, thO (A.persist r k) 6 0 18, thO (A.persist r k) 7 0 18, .dead, .dead, .dead, .dead, .dead, .dead, noO (A.persist r k) 0, noO (A.persist r k) 1, noO (A.persist r k) 2, noO (A.persist r k) 3, noO (A.persist r k) 4, noO (A.persist r k) 5, noO (A.persist r k) 6, noO (A.persist r k) 7, hiO (A.persist r k) (jper A J r k) 0, hiO (A.persist r k) (jper A J r k) 1, hiO (A.persist r k) (jper A J r k) 2, hiO (A.persist r k) (jper A J r k) 3, hiO (A.persist r k) (jper A J r k) 4, hiO (A.persist r k) (jper A J r k) 5] := by
 refine acalls_of (E := E) (fn := Try.f17) 47 [.tmp 6] rfl rfl rfl rfl (by decide) rfl rfl ?_
 have h6 := h.n6
 have hl := h.len r (by omega)
 have kp := dPersist A J h r k hr hk (hj r (by omega))
 repeat' (first
  | (with_reducible first | refine r_seq ?_ | refine r_block ?_ | refine fork_not ?_ | refine fork_and ?_ | refine fork_or ?_ | refine chk_ok (by kernel_rfl) ?_)
  | ((with_reducible first | refine fork_dec ?_ ?_ | refine fork_eq ?_ ?_ | refine fork_ne ?_ ?_ | refine fork_intro ?_ ?_) <;> intro h <;> try (exfalso; first | omega | exact h rfl | (revert h; decide) | (cases h; done)))
  | ((with_reducible show False); omega)
  | ((first | (with_reducible first | refine r_exit ?_ | refine r_skip ?_ | refine r_cond ?_ | refine r_region ?_ | refine r_ret ?_ | show VX _ _ _ _ _ _ _ | show vstep _ _ _ _ _ | show vskip _ _ _ | show withV _ _) | ((with_reducible show endA _ _ _ _ _ _ _); simp -implicitDefEqProofs only [endA]) | (with_reducible first | refine pick_viewG default (by first | omega | (simp only [LN]; omega)) (by first | omega | (simp only [LN]; omega)) ?_ | refine pick_own default (by first | omega | (simp only [LN]; omega)) ?_ | refine And.intro (by first | decide | omega | assumption | (simp only [LN]; omega)) ?_) | (with_reducible first | apply callK_lent | apply callF_lent | apply hideP_own) | ((with_reducible apply callA_go); (first | exact kp | fail)) | ((with_reducible show pickE _ _ _); first | refine pickE_intro _ ⟨by omega, by rfl⟩ ?_ | refine pickE_intro _ (by rfl) ?_) | fail); try simp -dsimp -implicitDefEqProofs (maxSteps := 1000000) (disch := first | omega | (simp only [LN]; omega)) only [go_sem])
  | fail)
 all_goals first | omega | (exfalso; simp_all; done)
set_option maxRecDepth 100000 in
set_option maxHeartbeats 4000000 in
theorem dWriteBack0 (A : Dv) (J : Nat → List (Int × Int)) (h : WF A) (r k : Int) (hb : A.wbB r k = false) : ACalls Try.prog 17 [.loc 0 0, .p (.v (.int .i64 r)), .p (.v (.int .i64 k))] [deO A 1 2 3 4, peO A, cuO A, liO A J 12, thO A 0 0 18, thO A 1 0 18, thO A 2 0 18, thO A 3 0 18, thO A 4 0 18, thO A 5 0 18, thO A 6 0 18, thO A 7 0 18, hiO A J 0, hiO A J 1, hiO A J 2, hiO A J 3, hiO A J 4, hiO A J 5, noO A 0, noO A 1, noO A 2, noO A 3, noO A 4, noO A 5, noO A 6, noO A 7] (.p (.v (.bool false))) [deO A 1 2 3 4, peO A, cuO A, liO A J 26, thO A 0 0 18, thO A 1 0 18, thO A 2 0 18, thO A 3 0 18, thO A 4 0 18, thO A 5 0 18, thO A 6 0 18, thO A 7 0 18, .dead, .dead, .dead, .dead, .dead, .dead, noO A 0, noO A 1, noO A 2, noO A 3, noO A 4, noO A 5, noO A 6, noO A 7, hiO A J 0, hiO A J 1, hiO A J 2, hiO A J 3, hiO A J 4, hiO A J 5] := by
 refine acalls_of (E := E) (fn := Try.f17) 47 [.tmp 6] rfl rfl rfl rfl (by decide) rfl rfl ?_
 have h6 := h.n6
 have hl := h.len r.toNat
 simp only [Dv.wbB, Bool.and_eq_false_iff, Bool.not_eq_false', decide_eq_false_iff_not] at hb
 rcases hb with hb | hb
 ·repeat' (first
   | (with_reducible first | refine r_seq ?_ | refine r_block ?_ | refine fork_not ?_ | refine fork_and ?_ | refine fork_or ?_ | refine chk_ok (by kernel_rfl) ?_)
   | ((with_reducible first | refine fork_dec ?_ ?_ | refine fork_eq ?_ ?_ | refine fork_ne ?_ ?_ | refine fork_intro ?_ ?_) <;> intro h <;> try (exfalso; first | omega | exact h rfl | (revert h; decide) | (cases h; done)))
   | ((with_reducible show False); omega)
   | ((first | (with_reducible first | refine r_exit ?_ | refine r_skip ?_ | refine r_cond ?_ | refine r_region ?_ | refine r_ret ?_ | show VX _ _ _ _ _ _ _ | show vstep _ _ _ _ _ | show vskip _ _ _ | show withV _ _) | ((with_reducible show endA _ _ _ _ _ _ _); simp -implicitDefEqProofs only [endA]) | (with_reducible first | refine pick_viewG default (by first | omega | (simp only [LN]; omega)) (by first | omega | (simp only [LN]; omega)) ?_ | refine pick_own default (by first | omega | (simp only [LN]; omega)) ?_ | refine And.intro (by first | decide | omega | assumption | (simp only [LN]; omega)) ?_) | ((with_reducible show pickE _ _ _); first | refine pickE_intro _ ⟨by omega, by rfl⟩ ?_ | refine pickE_intro _ (by rfl) ?_) | fail); try simp -dsimp -implicitDefEqProofs (maxSteps := 1000000) (disch := first | omega | (simp only [LN]; omega)) only [go_sem])
   | fail)
  all_goals first | omega | (exfalso; simp_all; done)
 ·repeat' (first
   | (with_reducible first | refine r_seq ?_ | refine r_block ?_ | refine fork_not ?_ | refine fork_and ?_ | refine fork_or ?_ | refine chk_ok (by kernel_rfl) ?_)
   | ((with_reducible first | refine fork_dec ?_ ?_ | refine fork_eq ?_ ?_ | refine fork_ne ?_ ?_ | refine fork_intro ?_ ?_) <;> intro h <;> try (exfalso; first | omega | exact h rfl | (revert h; decide) | (cases h; done)))
   | ((with_reducible show False); omega)
   | ((first | (with_reducible first | refine r_exit ?_ | refine r_skip ?_ | refine r_cond ?_ | refine r_region ?_ | refine r_ret ?_ | show VX _ _ _ _ _ _ _ | show vstep _ _ _ _ _ | show vskip _ _ _ | show withV _ _) | ((with_reducible show endA _ _ _ _ _ _ _); simp -implicitDefEqProofs only [endA]) | (with_reducible first | refine pick_viewG default (by first | omega | (simp only [LN]; omega)) (by first | omega | (simp only [LN]; omega)) ?_ | refine pick_own default (by first | omega | (simp only [LN]; omega)) ?_ | refine And.intro (by first | decide | omega | assumption | (simp only [LN]; omega)) ?_) | ((with_reducible show pickE _ _ _); first | refine pickE_intro _ ⟨by omega, by rfl⟩ ?_ | refine pickE_intro _ (by rfl) ?_) | fail); try simp -dsimp -implicitDefEqProofs (maxSteps := 1000000) (disch := first | omega | (simp only [LN]; omega)) only [go_sem])
   | fail)
  all_goals first | (exfalso; omega)
theorem dWriteBack6 (A : Dv) (J : Nat → List (Int × Int)) (h : WF A) (hj : ∀ r, r < 6 → (jk A J r).length ≤ 1000000000) (r k : Int) : ACalls Try.prog 17 [.loc 0 0, .p (.v (.int .i64 r)), .p (.v (.int .i64 k))] [deO A 1 2 3 4, peO A, cuO A, liO A J 12, thO A 0 0 18, thO A 1 0 18, thO A 2 0 18, thO A 3 0 18, thO A 4 0 18, thO A 5 0 18, thO A 6 0 18, thO A 7 0 18, hiO A J 0, hiO A J 1, hiO A J 2, hiO A J 3, hiO A J 4, hiO A J 5, noO A 0, noO A 1, noO A 2, noO A 3, noO A 4, noO A 5, noO A 6, noO A 7] (.p (.v (.bool (A.wbB r k)))) [deO (A.wb r k) 1 2 3 4, peO (A.wb r k), cuO (A.wb r k), liO (A.wb r k) (jwb A J r k) 26, thO (A.wb r k) 0 0 18, thO (A.wb r k) 1 0 18, thO (A.wb r k) 2 0 18, thO (A.wb r k) 3 0 18, thO (A.wb r k) 4 0 18, thO (A.wb r k) 5 0 18, thO (A.wb r k) 6 0 18, thO (A.wb r k) 7 0 18, .dead, .dead, .dead, .dead, .dead, .dead, noO (A.wb r k) 0, noO (A.wb r k) 1, noO (A.wb r k) 2, noO (A.wb r k) 3, noO (A.wb r k) 4, noO (A.wb r k) 5, noO (A.wb r k) 6, noO (A.wb r k) 7, hiO (A.wb r k) (jwb A J r k) 0, hiO (A.wb r k) (jwb A J r k) 1, hiO (A.wb r k) (jwb A J r k) 2, hiO (A.wb r k) (jwb A J r k) 3, hiO (A.wb r k) (jwb A J r k) 4, hiO (A.wb r k) (jwb A J r k) 5] := by
 unfold Dv.wb jwb
 cases hb : A.wbB r k with
 | false =>
  have := dWriteBack0 A J h r k hb
  simpa using this
 | true =>
  have hb2 := hb
  simp only [Dv.wbB, Bool.and_eq_true, Bool.not_eq_true', decide_eq_true_eq] at hb2
  have := dWriteBack1 A J h hj r.toNat k.toNat hb2.1 (by omega) (by omega)
  rw [show ((r.toNat : Nat) : Int) = r by omega, show ((k.toNat : Nat) : Int) = k by omega] at this
  simpa using this
end Go.Proofs.Ytlldhofcdfejnaa