/- Contracts of functions of this program, and the plain facts that they rest on. No conditions. -/
import Derived.Test.YtlldhofcdfejnaaTpBQ
set_option linter.unusedSimpArgs false
set_option linter.unusedVariables false
namespace Go.Proofs.Ytlldhofcdfejnaa
open Go Go.Ab
attribute [local irreducible] callK callF loopQ vstep vskip pickE hideP
set_option maxRecDepth 100000
theorem and32 (a : Nat) (h : a < 4294967296) : IntKind.u64.wrap ((BitVec.ofInt IntKind.u64.bits (a : Int) &&& BitVec.ofInt IntKind.u64.bits 4294967295).toNat : Int) = (a : Int) := by
 have e : (BitVec.ofInt 64 (a : Int) &&& BitVec.ofInt 64 4294967295).toNat = a := by
  rw [BitVec.toNat_and, show (4294967295 : Int) = ((4294967295 : Nat) : Int) from rfl, BitVec.ofInt_natCast, BitVec.ofInt_natCast, BitVec.toNat_ofNat, BitVec.toNat_ofNat, Nat.mod_eq_of_lt (by omega), Nat.mod_eq_of_lt (by omega), show 4294967295 = 2 ^ 32 - 1 from rfl, Nat.and_two_pow_sub_one_eq_mod, Nat.mod_eq_of_lt (by omega)]
 rw [show IntKind.u64.bits = 64 from rfl, e, wr64]; omega
set_option maxRecDepth 100000 in
set_option maxHeartbeats 4000000 in
theorem pMul (a b : Nat) (ha : a ≤ 10000) (hb : b ≤ 10000) : PCalls Try.prog 37 [.v (.int .u64 a), .v (.int .u64 b)] (.tup [.v (.int .u64 0), .v (.int .u64 ((a * b : Nat) : Int))]) := by
 refine pcalls_of (E := E) (fn := Try.f37) 51 [.tmp 4, .tmp 5] rfl rfl rfl rfl (by decide) rfl ?_
 have ea := and32 a (by omega)
 have eb := and32 b (by omega)
 have ez : IntKind.u64.wrap ((BitVec.ofInt IntKind.u64.bits 0 &&& BitVec.ofInt IntKind.u64.bits 4294967295).toNat : Int) = 0 := and32 0 (by omega)
 have hab : a * b ≤ 10000 * 10000 := Nat.mul_le_mul ha hb
 have e1 : IntKind.u64.wrap ((a : Int) * b) = ((a * b : Nat) : Int) := by rw [wr64, ← Int.natCast_mul]; omega
 have e2 : (a : Int) / 4294967296 = 0 := by omega
 have e3 : (b : Int) / 4294967296 = 0 := by omega
 have e4 : ((a * b : Nat) : Int) / 4294967296 = 0 := by omega
 have e5 : IntKind.u64.wrap 0 = 0 := rfl
 have e6 : (0 : Int) / 4294967296 = 0 := rfl
 repeat' (first
  | (with_reducible first | refine r_seq ?_ | refine r_block ?_ | refine fork_not ?_ | refine fork_and ?_ | refine fork_or ?_ | refine chk_ok (by kernel_rfl) ?_)
  | ((with_reducible first | refine fork_dec ?_ ?_ | refine fork_eq ?_ ?_ | refine fork_ne ?_ ?_ | refine fork_intro ?_ ?_) <;> intro h)
  | ((with_reducible show False); omega)
  | ((first | (with_reducible first | refine r_exit ?_ | refine r_skip ?_ | refine r_cond ?_ | refine r_region ?_ | refine r_ret ?_ | show VX _ _ _ _ _ _ _ | show vstep _ _ _ _ _ | show vskip _ _ _ | show withV _ _) | ((with_reducible show endA _ _ _ _ _ _ _); simp -implicitDefEqProofs only [endA]) | (with_reducible first | refine pick_viewG default (by first | omega | (simp only [LN, ea, eb, ez, e1, e2, e3, e4, e5, e6, Int.zero_mul, Int.mul_zero, Int.zero_add, Int.add_zero]; omega)) (by first | omega | (simp only [LN, ea, eb, ez, e1, e2, e3, e4, e5, e6, Int.zero_mul, Int.mul_zero, Int.zero_add, Int.add_zero]; omega)) ?_ | refine pick_own default (by first | omega | (simp only [LN, ea, eb, ez, e1, e2, e3, e4, e5, e6, Int.zero_mul, Int.mul_zero, Int.zero_add, Int.add_zero]; omega)) ?_ | refine And.intro (by first | decide | omega | assumption | (simp only [LN, ea, eb, ez, e1, e2, e3, e4, e5, e6, Int.zero_mul, Int.mul_zero, Int.zero_add, Int.add_zero]; omega)) ?_) | ((with_reducible show pickE _ _ _); first | refine pickE_intro _ ⟨by omega, by rfl⟩ ?_ | refine pickE_intro _ (by rfl) ?_) | fail); try simp -dsimp -implicitDefEqProofs (maxSteps := 1000000) (disch := first | omega | (simp only [LN, ea, eb, ez, e1, e2, e3, e4, e5, e6, Int.zero_mul, Int.mul_zero, Int.zero_add, Int.add_zero]; omega)) only [go_sem, ea, eb, ez, e1, e2, e3, e4, e5, e6, Int.zero_mul, Int.mul_zero, Int.zero_add, Int.add_zero])
  | fail)
end Go.Proofs.Ytlldhofcdfejnaa