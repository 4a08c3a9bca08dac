/- Contracts of functions of this program, and the plain facts that they rest on. No conditions. -/
import Derived.Test.YtckhjklcfagkoaaGreatDoorDvNQ
set_option linter.unusedSimpArgs false
set_option linter.unusedVariables false
namespace Go.Proofs.YtckhjklcfagkoaaGreatDoor
open Go Go.Ab
attribute [local irreducible] callK callF loopQ vstep vskip pickE hideP
set_option maxRecDepth 100000
attribute [local go_sem] eU eC deO peO cuO liO thO hiO noO
def bytU (l : List UInt8) (o k : Nat) : Nat := (l.getD (o + k) 0).toNat
def wrdU (l : List UInt8) (o : Nat) : Nat → Nat
 | 0 => 0
 | k + 1 => wrdU l o k + bytU l o k * 256 ^ k
theorem bytU_lt (l : List UInt8) (o k : Nat) : bytU l o k < 256 := by unfold bytU; exact UInt8.toNat_lt _
theorem wrdU_lt (l : List UInt8) (o : Nat) : ∀ k, wrdU l o k < 256 ^ k
 | 0 => by simp [wrdU]
 | k + 1 => by
  have h1 := wrdU_lt l o k
  have h2 := bytU_lt l o k
  have h3 : bytU l o k * 256 ^ k ≤ 255 * 256 ^ k := Nat.mul_le_mul_right _ (by omega)
  rw [wrdU, Nat.pow_succ]; omega
theorem borU_add (a b : Int) (i : Nat) (ha0 : 0 ≤ a) (ha : a < 2 ^ i) (hb : 0 ≤ b) (hab : a + b * 2 ^ i < 18446744073709551616) :
  ((BitVec.ofInt 64 a ||| BitVec.ofInt 64 (b * 2 ^ i)).toNat : Int) = a + b * 2 ^ i := by
 obtain ⟨m, rfl⟩ := Int.eq_ofNat_of_zero_le ha0
 obtain ⟨n, rfl⟩ := Int.eq_ofNat_of_zero_le hb
 have e : ((n : Int) * 2 ^ i) = ((n * 2 ^ i : Nat) : Int) := by simp
 rw [e] at hab ⊢
 have hm : m < 2 ^ i := by exact_mod_cast ha
 have hs : m + n * 2 ^ i < 2 ^ 64 := by omega
 rw [BitVec.toNat_or, BitVec.ofInt_natCast, BitVec.ofInt_natCast, BitVec.toNat_ofNat, BitVec.toNat_ofNat, Nat.mod_eq_of_lt (by omega), Nat.mod_eq_of_lt (by omega)]
 have := Nat.shiftLeft_add_eq_or_of_lt hm n
 rw [Nat.shiftLeft_eq] at this
 rw [Nat.or_comm, ← this]
 push_cast; omega
theorem pow8U (k : Nat) : (2 : Int) ^ (8 * k) = ((256 ^ k : Nat) : Int) := by rw [Int.pow_mul, Int.natCast_pow]; rfl
theorem wrd_core (a b q i : Nat) (hq : (2 : Int) ^ i = (q : Int)) (h1 : b < 256) (h2 : a < q) (h3 : a + b * q < 18446744073709551616) :
  IntKind.u64.wrap ((BitVec.ofInt 64 (a : Int) ||| BitVec.ofInt 64 (IntKind.u64.wrap (IntKind.u64.wrap (b : Int) * 2 ^ i))).toNat : Int) = ((a + b * q : Nat) : Int) := by
 have e1 : IntKind.u64.wrap (b : Int) = b := by rw [IntKind.wrap_u64]; omega
 have e2 : (b : Int) * 2 ^ i = ((b * q : Nat) : Int) := by rw [hq, Int.natCast_mul]
 have e3 : IntKind.u64.wrap ((b : Int) * 2 ^ i) = (b : Int) * 2 ^ i := by rw [e2, IntKind.wrap_u64]; omega
 have e4 := borU_add a b i (by omega) (by rw [hq]; omega) (by omega) (by rw [e2]; omega)
 rw [e1, e3, e4, e2, IntKind.wrap_u64]
 omega
def fW (p : List UInt8) (m i : Nat) : List Int := (List.range m).map fun j => ((wrdU p (8 * j) (min 8 (i - 8 * j)) : Nat) : Int)
theorem fW_len (p : List UInt8) (m i : Nat) : (fW p m i).length = m := by simp [fW]
theorem fW_0 (p : List UInt8) (m : Nat) : List.replicate m (PV.v (.int .u64 0)) = (fW p m 0).map eU := by
 unfold fW
 apply List.ext_getElem (by simp)
 intro i h1 h2
 simp [wrdU, eU]
theorem fW_get (p : List UInt8) (m i j : Nat) (hj : j < m) (d : Int) : (fW p m i).getD j d = ((wrdU p (8 * j) (min 8 (i - 8 * j)) : Nat) : Int) := by
 unfold fW; simp [List.getD_eq_getElem?_getD, hj]
theorem fW_s (p : List UInt8) (m i : Nat) (hi : i < 8 * m) (x : Int) (hx : x = ((wrdU p (8 * (i / 8)) (i % 8 + 1) : Nat) : Int)) : ((fW p m i).map eU).set (i / 8) (.v (.int .u64 x)) = (fW p m (i + 1)).map eU := by
 subst hx
 unfold fW
 apply List.ext_getElem (by simp)
 intro j h1 h2
 rw [List.getElem_set]
 simp only [List.getElem_map, List.getElem_range, eU]
 by_cases e : i / 8 = j
 ·subst e; rw [if_pos rfl, show min 8 (i + 1 - 8 * (i / 8)) = i % 8 + 1 by omega]
 ·rw [if_neg e]
  by_cases h : j < i / 8
  ·rw [show min 8 (i - 8 * j) = 8 by omega, show min 8 (i + 1 - 8 * j) = 8 by omega]
  ·rw [show min 8 (i - 8 * j) = 0 by omega, show min 8 (i + 1 - 8 * j) = 0 by omega]
end Go.Proofs.YtckhjklcfagkoaaGreatDoor