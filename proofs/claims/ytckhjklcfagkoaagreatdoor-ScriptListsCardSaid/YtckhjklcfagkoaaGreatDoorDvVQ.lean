/- Contracts of functions of this program, and the plain facts that they rest on. No conditions. -/
import Derived.Test.YtckhjklcfagkoaaGreatDoorDvPQ
set_option linter.unusedSimpArgs false
set_option linter.unusedVariables false
namespace Go.Proofs.YtckhjklcfagkoaaGreatDoor
open Go Go.Ab
attribute [local irreducible] callK callF loopQ vstep vskip pickE hideP
set_option maxRecDepth 100000
theorem wrdU_dig (l : List UInt8) (o k : Nat) : ∀ K, k < K → wrdU l o K / 256 ^ k % 256 = bytU l o k
 | 0, h => absurd h (by omega)
 | K + 1, h => by
  have hb := bytU_lt l o k
  rw [wrdU]
  by_cases e : k = K
  ·subst e
   rw [Nat.add_mul_div_right _ _ (Nat.pow_pos (by decide)), Nat.div_eq_of_lt (wrdU_lt l o k)]; omega
  ·have hlt : k < K := by omega
   have e2 : 256 ^ K = 256 ^ (K - k - 1) * 256 * 256 ^ k := by rw [← Nat.pow_succ, ← Nat.pow_add]; congr 1; omega
   rw [e2, ← Nat.mul_assoc, Nat.add_mul_div_right _ _ (Nat.pow_pos (by decide)), ← Nat.mul_assoc, Nat.add_mul_mod_self_right]
   exact wrdU_dig l o k K hlt
theorem pB_fW (p : List UInt8) (n m : Nat) (hp : p.length = 64 * n) (hm : m = 64 * n) : pB (fW p (8 * n) m) m = p := by
 subst hm
 unfold pB
 refine List.ext_getElem (by simp; omega) fun j h1 h2 => ?_
 simp only [List.length_map, List.length_range] at h1
 simp only [List.getElem_map, List.getElem_range]
 unfold byW
 rw [fW_get _ _ _ _ (by omega), show min 8 (64 * n - 8 * (j / 8)) = 8 by omega]
 have e := wrdU_dig p (8 * (j / 8)) (j % 8) 8 (by omega)
 have e2 : bytU p (8 * (j / 8)) (j % 8) = (p[j]).toNat := by
  unfold bytU
  rw [show 8 * (j / 8) + j % 8 = j by omega, List.getD_eq_getElem?_getD, List.getElem?_eq_getElem (by omega)]; rfl
 have e3 : (2 : Int) ^ (j % 8 * 8) = ((256 ^ (j % 8) : Nat) : Int) := by rw [Nat.mul_comm]; exact pow8U _
 rw [e3, IntKind.wrap_u8]
 have e4 : ((wrdU p (8 * (j / 8)) 8 : Nat) : Int) / ((256 ^ (j % 8) : Nat) : Int) % 256 = ((p[j].toNat : Nat) : Int) := by
  rw [← e2, ← e]; norm_cast
 rw [e4]
 simp
theorem pB_crash (A : Dv) (c : List UInt8) : pB (A.crash c).per (64 * (A.crash c).n) = pB (imgC A c) (64 * A.n) := pB_fW _ A.n _ (pB_len _ _) rfl
end Go.Proofs.YtckhjklcfagkoaaGreatDoor