/- Contracts of functions of this program, and the plain facts that they rest on. No conditions. -/
import Derived.Test.YtcnbngflehiphaaDoorDvPQ
import Derived.Test.YtcnbngflehiphaaDoorD1
set_option linter.unusedSimpArgs false
set_option linter.unusedVariables false
namespace Go.Proofs.YtcnbngflehiphaaDoor
open Go Go.Ab
attribute [local irreducible] callK callF loopQ vstep vskip pickE hideP
attribute [local go_sem] eI
set_option maxRecDepth 100000
attribute [local go_sem] eU eC deO peO cuO liO thO hiO noO
theorem eC_eB : eC = eB := rfl
theorem wrdU_dig (l : List UInt8) (o k : Nat) : ∀ K, k < K → wrdU l o K / 256 ^ k % 256 = bytU l o k
 | 0, h => absurd h (by omega)
 | K + 1, h => by
  have hb := bytU_lt l o k
  rw [wrdU]
  by_cases e : k = K
  ·subst e
   rw [Nat.add_mul_div_right _ _ (Nat.pow_pos (by decide)), Nat.div_eq_of_lt (wrdU_lt l o k)]; omega
  ·have hlt : k < K := by omega
   have e2 : 256 ^ K = 256 ^ (K - k - 1) * 256 * 256 ^ k := by rw [← Nat.pow_succ, ← Nat.pow_add]; congr 1; omega
   rw [e2, ← Nat.mul_assoc, Nat.add_mul_div_right _ _ (Nat.pow_pos (by decide)), ← Nat.mul_assoc, Nat.add_mul_mod_self_right]
   exact wrdU_dig l o k K hlt
theorem pB_fW (p : List UInt8) (n m : Nat) (hp : p.length = 64 * n) (hm : m = 64 * n) : pB (fW p (8 * n) m) m = p := by
 subst hm
 unfold pB
 refine List.ext_getElem (by simp; omega) fun j h1 h2 => ?_
 simp only [List.length_map, List.length_range] at h1
 simp only [List.getElem_map, List.getElem_range]
 unfold byW
 rw [fW_get _ _ _ _ (by omega), show min 8 (64 * n - 8 * (j / 8)) = 8 by omega]
 have e := wrdU_dig p (8 * (j / 8)) (j % 8) 8 (by omega)
 have e2 : bytU p (8 * (j / 8)) (j % 8) = (p[j]).toNat := by
  unfold bytU
  rw [show 8 * (j / 8) + j % 8 = j by omega, List.getD_eq_getElem?_getD, List.getElem?_eq_getElem (by omega)]; rfl
 have e3 : (2 : Int) ^ (j % 8 * 8) = ((256 ^ (j % 8) : Nat) : Int) := by rw [Nat.mul_comm]; exact pow8U _
 rw [e3, IntKind.wrap_u8]
 have e4 : ((wrdU p (8 * (j / 8)) 8 : Nat) : Int) / ((256 ^ (j % 8) : Nat) : Int) % 256 = ((p[j].toNat : Nat) : Int) := by
  rw [← e2, ← e]; norm_cast
 rw [e4]
 simp
set_option maxRecDepth 100000 in
set_option maxHeartbeats 4000000 in
theorem dOfI (A : Dv) (J : Nat → List (Int × Int)) (h : WF A) : ACalls Tryd.prog 29 [.loc 0 0] [deO A 1 2 3 4, peO A, cuO A, liO A J 12, thO A 0 0 18, thO A 1 0 18, thO A 2 0 18, thO A 3 0 18, thO A 4 0 18, thO A 5 0 18, thO A 6 0 18, thO A 7 0 18, hiO A J 0, hiO A J 1, hiO A J 2, hiO A J 3, hiO A J 4, hiO A J 5, noO A 0, noO A 1, noO A 2, noO A 3, noO A 4, noO A 5, noO A 6, noO A 7] (.p (eI (pB A.per (64 * A.n)))) [deO A 1 2 3 4, peO A, cuO A, liO A J 12, thO A 0 0 18, thO A 1 0 18, thO A 2 0 18, thO A 3 0 18, thO A 4 0 18, thO A 5 0 18, thO A 6 0 18, thO A 7 0 18, hiO A J 0, hiO A J 1, hiO A J 2, hiO A J 3, hiO A J 4, hiO A J 5, noO A 0, noO A 1, noO A 2, noO A 3, noO A 4, noO A 5, noO A 6, noO A 7] := by
 refine acalls_of (E := E) (fn := Tryd.f29) 7 [.cell 2 25] rfl rfl rfl rfl (by decide) rfl rfl ?_
 have k := dPers6 A J h
 rw [byL_pB, eC_eB] at k
 have hl := pB_len A.per (64 * A.n)
 repeat' (first
  | (with_reducible first | refine r_seq ?_ | refine r_block ?_ | refine fork_not ?_ | refine fork_and ?_ | refine fork_or ?_ | refine chk_ok (by kernel_rfl) ?_)
  | ((with_reducible first | refine fork_dec ?_ ?_ | refine fork_eq ?_ ?_ | refine fork_ne ?_ ?_ | refine fork_intro ?_ ?_) <;> intro h)
  | ((with_reducible show False); omega)
  | ((first | (with_reducible first | refine r_exit ?_ | refine r_skip ?_ | refine r_cond ?_ | refine r_region ?_ | refine r_ret ?_ | show VX _ _ _ _ _ _ _ | show vstep _ _ _ _ _ | show vskip _ _ _ | show withV _ _) | ((with_reducible show endA _ _ _ _ _ _ _); simp -implicitDefEqProofs only [endA]) | (with_reducible first | refine pick_viewG default (by first | omega | (simp only [LN, hl]; omega)) (by first | omega | (simp only [LN, hl]; omega)) ?_ | refine pick_own default (by first | omega | (simp only [LN, hl]; omega)) ?_ | refine And.intro (by first | decide | omega | assumption | (simp only [LN, hl]; omega)) ?_) | (with_reducible first | apply callK_lent | apply callF_lent | apply hideP_own) | ((with_reducible apply callA_go); (first | exact k | fail)) | ((with_reducible show pickE _ _ _); first | refine pickE_intro _ ⟨by omega, by rfl⟩ ?_ | refine pickE_intro _ (by rfl) ?_) | fail); try simp -dsimp -implicitDefEqProofs (maxSteps := 1000000) (disch := first | omega | (simp only [LN, hl]; omega)) only [go_sem, hl])
  | fail)
end Go.Proofs.YtcnbngflehiphaaDoor