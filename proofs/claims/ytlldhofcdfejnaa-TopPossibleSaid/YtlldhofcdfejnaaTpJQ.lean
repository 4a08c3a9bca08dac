/- Contracts of functions of this program, and the plain facts that they rest on. No conditions. -/
import Derived.Test.YtlldhofcdfejnaaTpIQ
set_option linter.unusedSimpArgs false
set_option linter.unusedVariables false
namespace Go.Proofs.Ytlldhofcdfejnaa
open Go Go.Ab
attribute [local irreducible] callK callF loopQ vstep vskip pickE hideP
set_option maxRecDepth 100000
abbrev bA (A : Dv) : List UInt8 := byB A.per (64 * A.n)
abbrev dA (A : Dv) : List Nat := dirL A A.n
abbrev hA (A : Dv) : Hs := hsL A (dirL A A.n).length
attribute [local go_sem] eU deO peO cuO liO thO hiO noO
set_option maxRecDepth 100000 in
set_option maxHeartbeats 4000000 in
theorem kCount (A : Dv) (J : Nat → List (Int × Int)) (N : Nat) (h : Inv A J N) (hN : N ≤ 1000000000) (hp : prodT (hA A) ≤ 10000) : ACalls Try.prog 5 [.loc 0 0] [deO A 1 2 3 4, peO A, cuO A, liO A J 12, thO A 0 0 18, thO A 1 0 18, thO A 2 0 18, thO A 3 0 18, thO A 4 0 18, thO A 5 0 18, thO A 6 0 18, thO A 7 0 18, hiO A J 0, hiO A J 1, hiO A J 2, hiO A J 3, hiO A J 4, hiO A J 5, noO A 0, noO A 1, noO A 2, noO A 3, noO A 4, noO A 5, noO A 6, noO A 7] (.tup [.p (.v (.int .u64 (prodT (hA A) : Nat))), .p (.v (.bool true))]) [deO A 1 2 3 4, peO A, cuO A, liO A J 12, thO A 0 0 18, thO A 1 0 18, thO A 2 0 18, thO A 3 0 18, thO A 4 0 18, thO A 5 0 18, thO A 6 0 18, thO A 7 0 18, hiO A J 0, hiO A J 1, hiO A J 2, hiO A J 3, hiO A J 4, hiO A J 5, noO A 0, noO A 1, noO A 2, noO A 3, noO A 4, noO A 5, noO A 6, noO A 7] := by
 refine acalls_of (E := E) (fn := Try.f5) 21 [.tmp 2, .tmp 3] rfl rfl rfl rfl (by decide) rfl rfl ?_
 have dl : (dA A).length ≤ A.n := dirL_len A A.n
 have h6 := h.wf.n6
 have k1 := kExam A J N h hN
 have k2 := kTotal (bA A) (dA A) (hA A) hp (by rw [hsL_len A (Nat.le_refl _)]; exact Nat.le_trans dl (by omega))
 have h9 : ¬ ((prodT (hA A) : Nat) : Int) > 4611686018427387904 := by omega
 repeat' (first
  | (with_reducible first | refine r_seq ?_ | refine r_block ?_ | refine fork_not ?_ | refine fork_and ?_ | refine fork_or ?_ | refine chk_ok (by kernel_rfl) ?_)
  | ((with_reducible first | refine fork_dec ?_ ?_ | refine fork_eq ?_ ?_ | refine fork_ne ?_ ?_ | refine fork_intro ?_ ?_) <;> intro h <;> try (exfalso; first | omega | exact h rfl | (revert h; decide) | (cases h; done)))
  | ((with_reducible show False); omega)
  | ((first | (with_reducible first | refine r_exit ?_ | refine r_skip ?_ | refine r_cond ?_ | refine r_region ?_ | refine r_ret ?_ | show VX _ _ _ _ _ _ _ | show vstep _ _ _ _ _ | show vskip _ _ _ | show withV _ _) | ((with_reducible show endA _ _ _ _ _ _ _); simp -implicitDefEqProofs only [endA]) | (with_reducible first | refine pick_viewG default (by first | omega | (simp only [LN, h9]; omega)) (by first | omega | (simp only [LN, h9]; omega)) ?_ | refine pick_own default (by first | omega | (simp only [LN, h9]; omega)) ?_ | refine And.intro (by first | decide | omega | assumption | (simp only [LN, h9]; omega)) ?_) | ((with_reducible apply callK_pure); (exact k2)) | ((with_reducible apply callF_lend); (exact k2); rfl) | ((with_reducible apply callF_go); (exact k2)) | (with_reducible first | apply callK_lent | apply callF_lent | apply hideP_own) | ((with_reducible apply callA_go); (first | exact k1 | fail)) | ((with_reducible show pickE _ _ _); first | refine pickE_intro _ ⟨by omega, by rfl⟩ ?_ | refine pickE_intro _ (by rfl) ?_) | fail); try simp -dsimp -implicitDefEqProofs (maxSteps := 1000000) (disch := first | omega | (simp only [LN, h9]; omega)) only [go_sem, h9])
  | fail)
def HsOk (p : List UInt8) (H : Hs) : Prop := ∀ l, l ∈ H → l.length ≤ 1000000 ∧ ∀ s, s ∈ l → 0 ≤ s.1 ∧ s.1 + 8 ≤ p.length ∧ 0 ≤ s.2 ∧ s.2 ≤ 18446744073709551615
theorem dgT_di (H : Hs) (i a : Nat) (ha : a < H.length) : (dgT H i).1.getD a default ≤ (H.getD a default).length := by
 induction H generalizing a with
 | nil => cases ha
 | cons l H ih =>
  rw [dgT]
  cases a with
  | zero => exact Nat.lt_succ_iff.1 (Nat.mod_lt _ (Nat.succ_pos _))
  | succ a => exact ih a (by simpa using ha)
def imA (A : Dv) (i : Nat) : List UInt8 := imK (bA A) (hA A) (dgT (hA A) i).1 (hA A).length
theorem imA_len (A : Dv) (i : Nat) : (imA A i).length = 64 * A.n := by rw [imA, imK_len, byB_len]
attribute [local go_sem] eSet eI eHs eNd
set_option maxRecDepth 100000 in
set_option maxHeartbeats 4000000 in
theorem kAt (A : Dv) (J : Nat → List (Int × Int)) (N i : Nat) (h : Inv A J N) (hN : N ≤ 1000000000) (hp : prodT (hA A) ≤ 10000) (ho : HsOk (bA A) (hA A)) (hi : i ≤ 1000000) (hz : (dgT (hA A) i).2 = 0) : ACalls Try.prog 6 [.loc 0 0, .p (.v (.int .u64 i))] [deO A 1 2 3 4, peO A, cuO A, liO A J 12, thO A 0 0 18, thO A 1 0 18, thO A 2 0 18, thO A 3 0 18, thO A 4 0 18, thO A 5 0 18, thO A 6 0 18, thO A 7 0 18, hiO A J 0, hiO A J 1, hiO A J 2, hiO A J 3, hiO A J 4, hiO A J 5, noO A 0, noO A 1, noO A 2, noO A 3, noO A 4, noO A 5, noO A 6, noO A 7] (.tup [.p (eI (imA A i)), .p (.v (.int .i64 0))]) [deO A 1 2 3 4, peO A, cuO A, liO A J 12, thO A 0 0 18, thO A 1 0 18, thO A 2 0 18, thO A 3 0 18, thO A 4 0 18, thO A 5 0 18, thO A 6 0 18, thO A 7 0 18, hiO A J 0, hiO A J 1, hiO A J 2, hiO A J 3, hiO A J 4, hiO A J 5, noO A 0, noO A 1, noO A 2, noO A 3, noO A 4, noO A 5, noO A 6, noO A 7] := by
 refine acalls_of (E := E) (fn := Try.f6) 26 [.cell 4 30, .tmp 5] rfl rfl rfl rfl (by decide) rfl rfl ?_
 have dl : (dA A).length ≤ A.n := dirL_len A A.n
 have h6 := h.wf.n6
 have k1 := kExam A J N h hN
 have hl : (hA A).length = (dA A).length := hsL_len A (Nat.le_refl _)
 have k2 := kSplit (bA A) (dA A) (hA A) i hi hl.symm (by omega) hp
 have k3 := kImage (bA A) (dA A) (hA A) (dgT (hA A) i).1 (by omega) (by rw [byB_len]; omega) (dgT_len _ _) (fun a ha => ⟨dgT_di _ _ _ ha, (ho _ (by rw [List.getD_eq_getElem?_getD, List.getElem?_eq_getElem ha]; exact List.getElem_mem ha)).1⟩) (fun l hl s hs => (ho l hl).2 s hs)
 have hn : newM (imA A i) = imA A i := by unfold newM; exact if_pos (by rw [imA_len]; omega)
 rw [show imK (bA A) (hA A) (dgT (hA A) i).1 (hA A).length = imA A i from rfl, hn] at k3
 have hdec : decide ((dgT (hA A) i).2 = 0) = true := decide_eq_true hz
 rw [hdec] at k2
 repeat' (first
  | (with_reducible first | refine r_seq ?_ | refine r_block ?_ | refine fork_not ?_ | refine fork_and ?_ | refine fork_or ?_ | refine chk_ok (by kernel_rfl) ?_)
  | ((with_reducible first | refine fork_dec ?_ ?_ | refine fork_eq ?_ ?_ | refine fork_ne ?_ ?_ | refine fork_intro ?_ ?_) <;> intro h <;> try (exfalso; first | omega | exact h rfl | (revert h; decide) | (cases h; done)))
  | ((with_reducible show False); omega)
  | ((first | (with_reducible first | refine r_exit ?_ | refine r_skip ?_ | refine r_cond ?_ | refine r_region ?_ | refine r_ret ?_ | show VX _ _ _ _ _ _ _ | show vstep _ _ _ _ _ | show vskip _ _ _ | show withV _ _) | ((with_reducible show endA _ _ _ _ _ _ _); simp -implicitDefEqProofs only [endA]) | (with_reducible first | refine pick_viewG default (by first | omega | (simp only [LN]; omega)) (by first | omega | (simp only [LN]; omega)) ?_ | refine pick_own default (by first | omega | (simp only [LN]; omega)) ?_ | refine And.intro (by first | decide | omega | assumption | (simp only [LN]; omega)) ?_) | ((with_reducible apply callK_pure); (first | exact k2 | exact k3 | fail)) | ((with_reducible apply callF_lend); (first | exact k2 | exact k3 | fail); rfl) | ((with_reducible apply callF_go); (first | exact k2 | exact k3 | fail)) | (with_reducible first | apply callK_lent | apply callF_lent | apply hideP_own) | ((with_reducible apply callA_go); (first | exact k1 | fail)) | ((with_reducible show pickE _ _ _); first | refine pickE_intro _ ⟨by omega, by rfl⟩ ?_ | refine pickE_intro _ (by rfl) ?_) | fail); try simp -dsimp -implicitDefEqProofs (maxSteps := 1000000) (disch := first | omega | (simp only [LN]; omega)) only [go_sem])
  | fail)
set_option maxRecDepth 100000 in
set_option maxHeartbeats 4000000 in
theorem kPossible (A : Dv) (J : Nat → List (Int × Int)) (N : Nat) (q : List UInt8) (h : Inv A J N) (hN : N ≤ 1000000000) (ho : HsOk (bA A) (hA A)) (hq : q.length ≤ 9000000) : ACalls Try.prog 8 [.loc 0 0, .p (eI q)] [deO A 1 2 3 4, peO A, cuO A, liO A J 12, thO A 0 0 18, thO A 1 0 18, thO A 2 0 18, thO A 3 0 18, thO A 4 0 18, thO A 5 0 18, thO A 6 0 18, thO A 7 0 18, hiO A J 0, hiO A J 1, hiO A J 2, hiO A J 3, hiO A J 4, hiO A J 5, noO A 0, noO A 1, noO A 2, noO A 3, noO A 4, noO A 5, noO A 6, noO A 7] (.p (.v (.bool (fnR (bA A) q (dA A) (hA A) A.n).isSome))) [deO A 1 2 3 4, peO A, cuO A, liO A J 12, thO A 0 0 18, thO A 1 0 18, thO A 2 0 18, thO A 3 0 18, thO A 4 0 18, thO A 5 0 18, thO A 6 0 18, thO A 7 0 18, hiO A J 0, hiO A J 1, hiO A J 2, hiO A J 3, hiO A J 4, hiO A J 5, noO A 0, noO A 1, noO A 2, noO A 3, noO A 4, noO A 5, noO A 6, noO A 7] := by
 refine acalls_of (E := E) (fn := Try.f8) 17 [.tmp 4] rfl rfl rfl rfl (by decide) rfl rfl ?_
 have dl : (dA A).length ≤ A.n := dirL_len A A.n
 have h6 := h.wf.n6
 have k1 := kExam A J N h hN
 have hl : (hA A).length = (dA A).length := hsL_len A (Nat.le_refl _)
 have k2 := kFind (bA A) q (dA A) (hA A) A.n (by omega) (byB_len _ _) hq hl.symm (by omega) (fun l hl => ⟨(ho l hl).1, fun s hs => ⟨((ho l hl).2 s hs).1, by have := ((ho l hl).2 s hs).2.1; rw [byB_len] at this; omega⟩⟩)
 repeat' (first
  | (with_reducible first | refine r_seq ?_ | refine r_block ?_ | refine fork_not ?_ | refine fork_and ?_ | refine fork_or ?_ | refine chk_ok (by kernel_rfl) ?_)
  | ((with_reducible first | refine fork_dec ?_ ?_ | refine fork_eq ?_ ?_ | refine fork_ne ?_ ?_ | refine fork_intro ?_ ?_) <;> intro h <;> try (exfalso; first | omega | exact h rfl | (revert h; decide) | (cases h; done)))
  | ((with_reducible show False); omega)
  | ((first | (with_reducible first | refine r_exit ?_ | refine r_skip ?_ | refine r_cond ?_ | refine r_region ?_ | refine r_ret ?_ | show VX _ _ _ _ _ _ _ | show vstep _ _ _ _ _ | show vskip _ _ _ | show withV _ _) | ((with_reducible show endA _ _ _ _ _ _ _); simp -implicitDefEqProofs only [endA]) | (with_reducible first | refine pick_viewG default (by first | omega | (simp only [LN]; omega)) (by first | omega | (simp only [LN]; omega)) ?_ | refine pick_own default (by first | omega | (simp only [LN]; omega)) ?_ | refine And.intro (by first | decide | omega | assumption | (simp only [LN]; omega)) ?_) | ((with_reducible apply callK_pure); (exact k2)) | ((with_reducible apply callF_lend); (exact k2); rfl) | ((with_reducible apply callF_go); (exact k2)) | (with_reducible first | apply callK_lent | apply callF_lent | apply hideP_own) | ((with_reducible apply callA_go); (first | exact k1 | fail)) | ((with_reducible show pickE _ _ _); first | refine pickE_intro _ ⟨by omega, by rfl⟩ ?_ | refine pickE_intro _ (by rfl) ?_) | fail); try simp -dsimp -implicitDefEqProofs (maxSteps := 1000000) (disch := first | omega | (simp only [LN]; omega)) only [go_sem])
  | fail)
end Go.Proofs.Ytlldhofcdfejnaa