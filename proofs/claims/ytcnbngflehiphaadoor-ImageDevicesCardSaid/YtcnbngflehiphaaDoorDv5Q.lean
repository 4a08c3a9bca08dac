/- Contracts of functions of this program, and the plain facts that they rest on. No conditions. -/
import Derived.Test.YtcnbngflehiphaaDoorDv4Q
import Derived.Test.YtcnbngflehiphaaDoorD5
set_option linter.unusedSimpArgs false
set_option linter.unusedVariables false
namespace Go.Proofs.YtcnbngflehiphaaDoor
open Go Go.Ab
attribute [local irreducible] callK callF loopQ vstep vskip pickE hideP
attribute [local go_sem] eI
set_option maxRecDepth 100000
theorem wordU_dig (l : List UInt8) (o k : Nat) : ∀ K, k < K → wordU l o K / 256 ^ k % 256 = byteM l o k
 | 0, h => absurd h (by omega)
 | K + 1, h => by
  have hb := byteM_lt l o k
  rw [wordU]
  by_cases e : k = K
  ·subst e
   rw [Nat.add_mul_div_right _ _ (Nat.pow_pos (by decide)), Nat.div_eq_of_lt (wordU_lt l o k)]; omega
  ·have hlt : k < K := by omega
   have e2 : 256 ^ K = 256 ^ (K - k - 1) * 256 * 256 ^ k := by rw [← Nat.pow_succ, ← Nat.pow_add]; congr 1; omega
   rw [e2, ← Nat.mul_assoc, Nat.add_mul_div_right _ _ (Nat.pow_pos (by decide)), ← Nat.mul_assoc, Nat.add_mul_mod_self_right]
   exact wordU_dig l o k K hlt
theorem byL_fW (p : List UInt8) (n m : Nat) (hp : p.length = 64 * n) (hm : m = 64 * n) : byL (fW p (8 * n) p.length) m m = p.map eB := by
 subst hm
 unfold byL
 refine List.ext_getElem (by simp; omega) fun j h1 h2 => ?_
 simp only [List.length_map, List.length_range] at h1
 simp only [List.getElem_map, List.getElem_range, h1, if_true]
 unfold byW eB
 rw [fW_get _ _ _ _ (by omega), show min 8 (p.length - 8 * (j / 8)) = 8 by omega]
 congr 2
 have e := wordU_dig p (8 * (j / 8)) (j % 8) 8 (by omega)
 have e2 : byteM p (8 * (j / 8)) (j % 8) = (p[j]).toNat := by
  unfold byteM
  rw [show 8 * (j / 8) + j % 8 = j by omega, List.getD_eq_getElem?_getD, List.getElem?_eq_getElem (by omega)]; rfl
 rw [← e2, ← e, wr8]
 have e3 : (2 : Int) ^ (j % 8 * 8) = ((256 ^ (j % 8) : Nat) : Int) := by rw [Nat.mul_comm]; exact pow8n _
 rw [e3]
 norm_cast
def mZ : EK := .i .u64 fun _ => none
theorem dLinesP (p : List UInt8) (n : Nat) (hp : p.length = 64 * n) (hn : 0 < n ∧ n ≤ 4096) : ACalls Tryd.prog 35 [.loc 0 0] [dvC n false false 0 0, .arr 1 ((fW p (8 * n) p.length).map eU), .arr 1 ((fW p (8 * n) p.length).map eU), liZ n, thC 0 0, thC 1 0, thC 2 0, thC 3 0, thC 4 0, thC 5 0, thC 6 0, thC 7 0, mpO, mpO, mpO, mpO, mpO, mpO, mpO, mpO] (.p (.v (.int .i64 n))) [dvC n false false 0 0, .arr 1 ((fW p (8 * n) p.length).map eU), .arr 1 ((fW p (8 * n) p.length).map eU), liZ n, thC 0 0, thC 1 0, thC 2 0, thC 3 0, thC 4 0, thC 5 0, thC 6 0, thC 7 0, mpO, mpO, mpO, mpO, mpO, mpO, mpO, mpO] := dLines (fW p (8 * n) p.length) (fW p (8 * n) p.length) n false false 0 0 0 0 0 0 0 0 0 0 mZ mZ mZ mZ mZ mZ mZ mZ hn.2
theorem dDirtyP (p : List UInt8) (n : Nat) (hp : p.length = 64 * n) (hn : 0 < n ∧ n ≤ 4096) : ACalls Tryd.prog 36 [.loc 0 0] [dvC n false false 0 0, .arr 1 ((fW p (8 * n) p.length).map eU), .arr 1 ((fW p (8 * n) p.length).map eU), liZ n, thC 0 0, thC 1 0, thC 2 0, thC 3 0, thC 4 0, thC 5 0, thC 6 0, thC 7 0, mpO, mpO, mpO, mpO, mpO, mpO, mpO, mpO] (.p (.v (.slice none 0 0))) [dvC n false false 0 0, .arr 1 ((fW p (8 * n) p.length).map eU), .arr 1 ((fW p (8 * n) p.length).map eU), liZ n, thC 0 0, thC 1 0, thC 2 0, thC 3 0, thC 4 0, thC 5 0, thC 6 0, thC 7 0, mpO, mpO, mpO, mpO, mpO, mpO, mpO, mpO] := dDirty (fW p (8 * n) p.length) (fW p (8 * n) p.length) n false false 0 0 0 0 0 0 0 0 0 0 mZ mZ mZ mZ mZ mZ mZ mZ hn.2 (fW_len _ _ _) (fW_len _ _ _)
theorem dPersP (p : List UInt8) (n : Nat) (hp : p.length = 64 * n) (hn : 0 < n ∧ n ≤ 4096) : ACalls Tryd.prog 37 [.loc 0 0] [dvC n false false 0 0, .arr 1 ((fW p (8 * n) p.length).map eU), .arr 1 ((fW p (8 * n) p.length).map eU), liZ n, thC 0 0, thC 1 0, thC 2 0, thC 3 0, thC 4 0, thC 5 0, thC 6 0, thC 7 0, mpO, mpO, mpO, mpO, mpO, mpO, mpO, mpO] (.sl 20 1 0 p.length) [dvC n false false 0 0, .arr 1 ((fW p (8 * n) p.length).map eU), .arr 1 ((fW p (8 * n) p.length).map eU), liZ n, thC 0 0, thC 1 0, thC 2 0, thC 3 0, thC 4 0, thC 5 0, thC 6 0, thC 7 0, mpO, mpO, mpO, mpO, mpO, mpO, mpO, mpO, .arr 1 (p.map eB)] := by
 have := dPers (fW p (8 * n) p.length) (fW p (8 * n) p.length) n false false 0 0 0 0 0 0 0 0 0 0 mZ mZ mZ mZ mZ mZ mZ mZ hn.2 (fW_len _ _ _) (fW_len _ _ _)
 rw [fW_len, byL_fW p n _ hp (by omega), show 8 * (8 * n) = p.length by omega] at this
 exact this
theorem dCurP (p : List UInt8) (n : Nat) (hp : p.length = 64 * n) (hn : 0 < n ∧ n ≤ 4096) : ACalls Tryd.prog 38 [.loc 0 0] [dvC n false false 0 0, .arr 1 ((fW p (8 * n) p.length).map eU), .arr 1 ((fW p (8 * n) p.length).map eU), liZ n, thC 0 0, thC 1 0, thC 2 0, thC 3 0, thC 4 0, thC 5 0, thC 6 0, thC 7 0, mpO, mpO, mpO, mpO, mpO, mpO, mpO, mpO] (.sl 20 1 0 p.length) [dvC n false false 0 0, .arr 1 ((fW p (8 * n) p.length).map eU), .arr 1 ((fW p (8 * n) p.length).map eU), liZ n, thC 0 0, thC 1 0, thC 2 0, thC 3 0, thC 4 0, thC 5 0, thC 6 0, thC 7 0, mpO, mpO, mpO, mpO, mpO, mpO, mpO, mpO, .arr 1 (p.map eB)] := by
 have := dCur (fW p (8 * n) p.length) (fW p (8 * n) p.length) n false false 0 0 0 0 0 0 0 0 0 0 mZ mZ mZ mZ mZ mZ mZ mZ hn.2 (fW_len _ _ _) (fW_len _ _ _)
 rw [fW_len, byL_fW p n _ hp (by omega), show 8 * (8 * n) = p.length by omega] at this
 exact this
attribute [local go_sem] eU dvO thO mpO liZ dvC thC
set_option maxRecDepth 100000 in
set_option maxHeartbeats 4000000 in
theorem dOf (p : List UInt8) (n : Nat) (hp : p.length = 64 * n) (hn : 0 < n ∧ n ≤ 4096) : ACalls Tryd.prog 29 [.loc 0 0] [dvC n false false 0 0, .arr 1 ((fW p (8 * n) p.length).map eU), .arr 1 ((fW p (8 * n) p.length).map eU), liZ n, thC 0 0, thC 1 0, thC 2 0, thC 3 0, thC 4 0, thC 5 0, thC 6 0, thC 7 0, mpO, mpO, mpO, mpO, mpO, mpO, mpO, mpO] (.p (eI p)) [dvC n false false 0 0, .arr 1 ((fW p (8 * n) p.length).map eU), .arr 1 ((fW p (8 * n) p.length).map eU), liZ n, thC 0 0, thC 1 0, thC 2 0, thC 3 0, thC 4 0, thC 5 0, thC 6 0, thC 7 0, mpO, mpO, mpO, mpO, mpO, mpO, mpO, mpO] := by
 refine acalls_of (E := E) (fn := Tryd.f29) 7 [.cell 2 25] rfl rfl rfl rfl (by decide) rfl rfl ?_
 repeat' (first
  | (with_reducible first | refine r_seq ?_ | refine r_block ?_ | refine fork_not ?_ | refine fork_and ?_ | refine fork_or ?_ | refine chk_ok (by kernel_rfl) ?_)
  | ((with_reducible first | refine fork_dec ?_ ?_ | refine fork_eq ?_ ?_ | refine fork_ne ?_ ?_ | refine fork_intro ?_ ?_) <;> intro h)
  | ((with_reducible show False); omega)
  | ((first | (with_reducible first | refine r_exit ?_ | refine r_skip ?_ | refine r_cond ?_ | refine r_region ?_ | refine r_ret ?_ | show VX _ _ _ _ _ _ _ | show vstep _ _ _ _ _ | show vskip _ _ _ | show withV _ _) | ((with_reducible show endA _ _ _ _ _ _ _); simp -implicitDefEqProofs only [endA]) | (with_reducible first | refine pick_viewG default (by first | omega | (simp only [LN]; omega)) (by first | omega | (simp only [LN]; omega)) ?_ | refine pick_own default (by first | omega | (simp only [LN]; omega)) ?_ | refine And.intro (by first | decide | omega | assumption | (simp only [LN]; omega)) ?_) | (with_reducible first | apply callK_lent | apply callF_lent | apply hideP_own) | ((with_reducible apply callA_go); (first | exact dPersP p n hp hn | fail)) | ((with_reducible show pickE _ _ _); first | refine pickE_intro _ ⟨by omega, by rfl⟩ ?_ | refine pickE_intro _ (by rfl) ?_) | fail); try simp -dsimp -implicitDefEqProofs (maxSteps := 1000000) (disch := first | omega | (simp only [LN]; omega)) only [go_sem])
  | fail)
set_option maxRecDepth 100000 in
set_option maxHeartbeats 4000000 in
theorem dDev (p : List UInt8) (n : Nat) (hp : p.length = 64 * n) (hn : 0 < n ∧ n ≤ 4096) : ACalls Tryd.prog 34 [.p (eI p)] [] (.tup [.loc 0 0, .p (.v (.int .i64 0))]) [dvC n false false 0 0, .arr 1 ((fW p (8 * n) p.length).map eU), .arr 1 ((fW p (8 * n) p.length).map eU), liZ n, thC 0 0, thC 1 0, thC 2 0, thC 3 0, thC 4 0, thC 5 0, thC 6 0, thC 7 0, mpO, mpO, mpO, mpO, mpO, mpO, mpO, mpO] := by
 refine acalls_of (E := E) (fn := Tryd.f34) 12 [.tmp 2, .tmp 3] rfl rfl rfl rfl (by decide) rfl rfl ?_
 have e1 : ¬ ((p.length / 64 : Nat) : Int) = 0 := by omega
 repeat' (first
  | (with_reducible first | refine r_seq ?_ | refine r_block ?_ | refine fork_not ?_ | refine fork_and ?_ | refine fork_or ?_ | refine chk_ok (by kernel_rfl) ?_)
  | ((with_reducible first | refine fork_dec ?_ ?_ | refine fork_eq ?_ ?_ | refine fork_ne ?_ ?_ | refine fork_intro ?_ ?_) <;> intro h <;> try (exfalso; first | omega | exact h rfl | (revert h; decide) | (cases h; done)))
  | ((with_reducible show False); omega)
  | ((first | (with_reducible first | refine r_exit ?_ | refine r_skip ?_ | refine r_cond ?_ | refine r_region ?_ | refine r_ret ?_ | show VX _ _ _ _ _ _ _ | show vstep _ _ _ _ _ | show vskip _ _ _ | show withV _ _) | ((with_reducible show endA _ _ _ _ _ _ _); simp -implicitDefEqProofs only [endA]) | (with_reducible first | refine pick_viewG default (by first | omega | (simp only [LN, e1]; omega)) (by first | omega | (simp only [LN, e1]; omega)) ?_ | refine pick_own default (by first | omega | (simp only [LN, e1]; omega)) ?_ | refine And.intro (by first | decide | omega | assumption | (simp only [LN, e1]; omega)) ?_) | ((with_reducible apply callK_pure); (first | exact c15 p (by omega) | exact c17 p (by omega) | fail)) | ((with_reducible apply callF_lend); (first | exact c15 p (by omega) | exact c17 p (by omega) | fail); rfl) | ((with_reducible apply callF_go); (first | exact c15 p (by omega) | exact c17 p (by omega) | fail)) | (with_reducible first | apply callK_lent | apply callF_lent | apply hideP_own) | ((with_reducible apply callA_go); (first | exact dFrom p n hp hn | fail)) | ((with_reducible show pickE _ _ _); first | refine pickE_intro _ ⟨by omega, by rfl⟩ ?_ | refine pickE_intro _ (by rfl) ?_) | fail); try simp -dsimp -implicitDefEqProofs (maxSteps := 1000000) (disch := first | omega | (simp only [LN, e1]; omega)) only [go_sem, e1])
  | fail)
set_option maxRecDepth 100000 in
set_option maxHeartbeats 4000000 in
theorem dDev0  : PCalls Tryd.prog 34 [eI []] (.tup [.v (.pointer none), .v (.int .i64 1)]) := by
 refine pcalls_of (E := E) (fn := Tryd.f34) 12 [.tmp 2, .tmp 3] rfl rfl rfl rfl (by decide) rfl ?_
 repeat' (first
  | (with_reducible first | refine r_seq ?_ | refine r_block ?_ | refine fork_not ?_ | refine fork_and ?_ | refine fork_or ?_ | refine chk_ok (by kernel_rfl) ?_)
  | ((with_reducible first | refine fork_dec ?_ ?_ | refine fork_eq ?_ ?_ | refine fork_ne ?_ ?_ | refine fork_intro ?_ ?_) <;> intro h <;> try (exfalso; first | omega | exact h rfl | (revert h; decide) | (cases h; done)))
  | ((with_reducible show False); omega)
  | ((first | (with_reducible first | refine r_exit ?_ | refine r_skip ?_ | refine r_cond ?_ | refine r_region ?_ | refine r_ret ?_ | show VX _ _ _ _ _ _ _ | show vstep _ _ _ _ _ | show vskip _ _ _ | show withV _ _) | ((with_reducible show endA _ _ _ _ _ _ _); simp -implicitDefEqProofs only [endA]) | (with_reducible first | refine pick_viewG default (by first | omega | (simp only [LN]; omega)) (by first | omega | (simp only [LN]; omega)) ?_ | refine pick_own default (by first | omega | (simp only [LN]; omega)) ?_ | refine And.intro (by first | decide | omega | assumption | (simp only [LN]; omega)) ?_) | ((with_reducible apply callK_pure); (exact c15 [] (by decide))) | ((with_reducible apply callF_lend); (exact c15 [] (by decide)); rfl) | ((with_reducible apply callF_go); (exact c15 [] (by decide))) | ((with_reducible show pickE _ _ _); first | refine pickE_intro _ ⟨by omega, by rfl⟩ ?_ | refine pickE_intro _ (by rfl) ?_) | fail); try simp -dsimp -implicitDefEqProofs (maxSteps := 1000000) (disch := first | omega | (simp only [LN]; omega)) only [go_sem])
  | fail)
end Go.Proofs.YtcnbngflehiphaaDoor