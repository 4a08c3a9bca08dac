/- Contracts of functions of this program, and the plain facts that they rest on. No conditions. -/
import Derived.Test.YtlldhofcdfejnaaTpBQ
import Derived.Test.YtlldhofcdfejnaaDvAQ
set_option linter.unusedSimpArgs false
set_option linter.unusedVariables false
namespace Go.Proofs.Ytlldhofcdfejnaa
open Go Go.Ab
attribute [local irreducible] callK callF loopQ vstep vskip pickE hideP
set_option maxRecDepth 100000
def eK (f : Nat → Int) : PV := .agg [.v (.int .u64 (f 0)), .v (.int .u64 (f 1)), .v (.int .u64 (f 2)), .v (.int .u64 (f 3)), .v (.int .u64 (f 4)), .v (.int .u64 (f 5)), .v (.int .u64 (f 6)), .v (.int .u64 (f 7))]
def oK (f : Nat → Int) : Ob := .var [.p (.v (.int .u64 (f 0))), .p (.v (.int .u64 (f 1))), .p (.v (.int .u64 (f 2))), .p (.v (.int .u64 (f 3))), .p (.v (.int .u64 (f 4))), .p (.v (.int .u64 (f 5))), .p (.v (.int .u64 (f 6))), .p (.v (.int .u64 (f 7)))]
def lw (p : List UInt8) (n k j : Nat) : Int := ((wordU p (64 * n + 8 * j) (min 8 (k - 8 * j)) : Nat) : Int)
theorem lw_0 (p : List UInt8) (n j : Nat) : lw p n 0 j = 0 := by unfold lw; rw [show min 8 (0 - 8 * j) = 0 by omega]; rfl
theorem lw_oth (p : List UInt8) (n j m i : Nat) (hm : m < 8) (hi : i ≠ j) : lw p n (8 * j + m + 1) i = lw p n (8 * j + m) i := by
 unfold lw
 by_cases h : i < j
 ·rw [show min 8 (8 * j + m + 1 - 8 * i) = 8 by omega, show min 8 (8 * j + m - 8 * i) = 8 by omega]
 ·rw [show min 8 (8 * j + m + 1 - 8 * i) = 0 by omega, show min 8 (8 * j + m - 8 * i) = 0 by omega]
theorem lw_step (p : List UInt8) (n j m : Nat) (hm : m < 8) (x : UInt8) (hx : x = p.getD (64 * n + 8 * j + m) 0) : IntKind.u64.wrap ((BitVec.ofInt IntKind.u64.bits (lw p n (8 * j + m) j) ||| BitVec.ofInt IntKind.u64.bits (IntKind.u64.wrap (IntKind.u64.wrap (x.toNat : Int) * 2 ^ (8 * m)))).toNat : Int) = lw p n (8 * j + m + 1) j := by
 subst hx
 unfold lw
 rw [show min 8 (8 * j + m - 8 * j) = m by omega, show min 8 (8 * j + m + 1 - 8 * j) = m + 1 by omega, wordU]
 have h3 := wordU_lt p (64 * n + 8 * j) (m + 1)
 have h4 : (256 : Nat) ^ (m + 1) ≤ 256 ^ 8 := Nat.pow_le_pow_right (by decide) (by omega)
 have h5 : (256 : Nat) ^ 8 = 18446744073709551616 := by decide
 exact word_core _ _ _ _ (pow8n m) (byteM_lt p (64 * n + 8 * j) m) (wordU_lt p (64 * n + 8 * j) m) (Nat.lt_of_lt_of_le h3 (h5 ▸ h4))
theorem tdiv8 (k : Nat) : (k : Int).tdiv 8 = ((k / 8 : Nat) : Int) := rfl
theorem tmod8 (k : Nat) : (k : Int).tmod 8 = ((k % 8 : Nat) : Int) := rfl
attribute [local go_sem] oK eK
set_option maxRecDepth 100000 in
set_option maxHeartbeats 4000000 in
theorem pLine (p : List UInt8) (n : Nat) (hp : p.length ≤ 9000000) (hn : 64 * (n + 1) ≤ p.length) : PCalls Try.prog 40 [.view 1 (p.map eB), .v (.int .i64 n)] (eK (lw p n 64)) := by
 refine pcalls_facts ⟨_, rfl, rfl, by decide⟩ fun hf => ?_
 simp only [go_sem, big] at hf
 refine pcalls_of (E := E) (fn := Try.f40) 36 [.cell 4 93] rfl rfl rfl rfl (by decide) rfl ?_
 have e1 : IntKind.i64.wrap ((n : Int) * 64) = ((64 * n : Nat) : Int) := by rw [IntKind.wrap_i64]; omega
 have e2 : IntKind.i64.wrap ((n : Int) + 1) = ((n + 1 : Nat) : Int) := by rw [IntKind.wrap_i64]; push_cast; omega
 have e3 : IntKind.i64.wrap (((n + 1 : Nat) : Int) * 64) = ((64 * (n + 1) : Nat) : Int) := by rw [IntKind.wrap_i64]; omega
 have hd : ((p.drop (64 * n)).take 64).length = 64 := by rw [List.length_take, List.length_drop]; omega
 repeat' (first
  | (with_reducible first | refine r_seq ?_ | refine r_block ?_ | refine fork_not ?_ | refine fork_and ?_ | refine fork_or ?_ | refine chk_ok (by kernel_rfl) ?_)
  | ((with_reducible first | refine fork_dec ?_ ?_ | refine fork_eq ?_ ?_ | refine fork_ne ?_ ?_ | refine fork_intro ?_ ?_) <;> intro h)
  | ((with_reducible show False); omega)
  | ((first | (with_reducible first | refine r_exit ?_ | refine r_skip ?_ | refine r_cond ?_ | refine r_region ?_ | refine r_ret ?_ | show VX _ _ _ _ _ _ _ | show vstep _ _ _ _ _ | show vskip _ _ _ | show withV _ _) | ((with_reducible show endA _ _ _ _ _ _ _); simp -implicitDefEqProofs only [endA]) | (with_reducible first | refine pick_viewG default (by first | omega | (simp only [LN, e1, e2, e3]; omega)) (by first | omega | (simp only [LN, e1, e2, e3]; omega)) ?_ | refine pick_own default (by first | omega | (simp only [LN, e1, e2, e3]; omega)) ?_ | refine And.intro (by first | decide | omega | assumption | (simp only [LN, e1, e2, e3]; omega)) ?_) | ((with_reducible show pickE _ _ _); first | refine pickE_intro _ ⟨by omega, by rfl⟩ ?_ | refine pickE_intro _ (by rfl) ?_) | fail); try simp -dsimp -implicitDefEqProofs (maxSteps := 1000000) (disch := first | omega | (simp only [LN, e1, e2, e3]; omega)) only [go_sem, e1, e2, e3])
  | fail)
 refine r_loopA (α := Nat) [4, 5, 14, 15] (fun k b => [(16, aI k)]) (fun k b => [(5, oK (lw p n k))]) (fun k => []) (fun k => k ≤ 64) (fun k => 64 - k) (0) ?h0_1 ?hs0_1 ?I_1 ?hI_1 ?round_1
 case hI_1 => intro x; (simp -dsimp -implicitDefEqProofs (maxSteps := 1000000) (disch := first | omega | (simp only [LN]; omega)) only [go_sem]) <;> exact rfl
 case hs0_1 => refine wk_auto ?_; (simp -dsimp -implicitDefEqProofs (maxSteps := 1000000) (disch := first | omega | (simp only [LN, lw_0]; omega)) only [go_sem, lw_0]) <;> (try omega)
 case h0_1 => exact Nat.zero_le _
 case round_1 =>
  intro k hk
  have w3 : IntKind.i64.wrap ((k : Int) + 1) = ((k + 1 : Nat) : Int) := by rw [IntKind.wrap_i64]; push_cast; omega
  by_cases hk2 : k < 64
  ·obtain ⟨j, m, hkj, hj, hm⟩ : ∃ j m, k = 8 * j + m ∧ j < 8 ∧ m < 8 := ⟨k / 8, k % 8, by omega, by omega, by omega⟩
   have d1 : IntKind.i64.wrap ((k : Int).tdiv 8) = (j : Int) := by rw [tdiv8, IntKind.wrap_i64]; omega
   have d2 : min (IntKind.u64.wrap (IntKind.i64.wrap ((k : Int).tmod 8 * 8))).toNat 64 = 8 * m := by
    have a1 : IntKind.i64.wrap (((k % 8 : Nat) : Int) * 8) = ((8 * m : Nat) : Int) := by rw [show k % 8 = m by omega]; exact i64w (by omega) (by omega) |>.trans (by omega)
    have a2 : IntKind.u64.wrap ((8 * m : Nat) : Int) = ((8 * m : Nat) : Int) := by rw [wr64]; omega
    rw [tmod8, a1, a2, Int.toNat_natCast]; omega
   obtain ⟨x, hx⟩ : ∃ x, x = p.getD (64 * n + 8 * j + m) 0 := ⟨_, rfl⟩
   have d3 : ((p.take (((n : Int) + 1) * 64).toNat).drop (64 * n)).getD k default = x := by
    rw [hx, hkj, List.getD_eq_getElem?_getD, List.getD_eq_getElem?_getD, List.getElem?_drop, List.getElem?_take, if_pos (by omega), Nat.add_assoc]; rfl
   have hs := lw_step p n j m hm x hx
   have ho := fun i hi => lw_oth p n j m i hm hi
   rw [← hkj] at hs ho
   rcases lt8 hj with rfl | rfl | rfl | rfl | rfl | rfl | rfl | rfl
   all_goals
    clear hkj
    repeat' (first
     | (with_reducible first | refine r_seq ?_ | refine r_block ?_ | refine fork_not ?_ | refine fork_and ?_ | refine fork_or ?_ | refine chk_ok (by kernel_rfl) ?_)
     | ((with_reducible first | refine fork_dec ?_ ?_ | refine fork_eq ?_ ?_ | refine fork_ne ?_ ?_ | refine fork_intro ?_ ?_) <;> intro h <;> try (exfalso; first | omega | exact h rfl | (revert h; decide) | (cases h; done)))
     | ((with_reducible show False); omega)
     | ((first | (with_reducible first | refine r_exit ?_ | refine r_skip ?_ | refine r_cond ?_ | refine r_region ?_ | refine r_ret ?_ | show VX _ _ _ _ _ _ _ | show vstep _ _ _ _ _ | show vskip _ _ _ | show withV _ _) | ((with_reducible show endA _ _ _ _ _ _ _); simp -implicitDefEqProofs only [endA]) | (with_reducible first | refine pick_viewG default (by first | omega | (simp only [LN, w3, d1, d2, d3, hs]; omega)) (by first | omega | (simp only [LN, w3, d1, d2, d3, hs]; omega)) ?_ | refine pick_own default (by first | omega | (simp only [LN, w3, d1, d2, d3, hs]; omega)) ?_ | refine And.intro (by first | decide | omega | assumption | (simp only [LN, w3, d1, d2, d3, hs]; omega)) ?_) | ((with_reducible show pickE _ _ _); first | refine pickE_intro _ ⟨by omega, by rfl⟩ ?_ | refine pickE_intro _ (by rfl) ?_) | fail); try simp -dsimp -implicitDefEqProofs (maxSteps := 1000000) (disch := first | omega | (simp only [LN, w3, d1, d2, d3, hs]; omega)) only [go_sem, w3, d1, d2, d3, hs])
     | fail)
    all_goals first | omega | ((refine loopQ_next (k + 1) ?_ ?_ ?_; (omega); (show _ < _; omega); (simp -dsimp -implicitDefEqProofs (maxSteps := 1000000) (disch := first | omega | (simp only [LN, ho, hs]; omega)) only [go_sem, ho, hs]; try trivial)))
  ·obtain rfl : k = 64 := by omega
   clear w3
   repeat' (first
    | (with_reducible first | refine r_seq ?_ | refine r_block ?_ | refine fork_not ?_ | refine fork_and ?_ | refine fork_or ?_ | refine chk_ok (by kernel_rfl) ?_)
    | ((with_reducible first | refine fork_dec ?_ ?_ | refine fork_eq ?_ ?_ | refine fork_ne ?_ ?_ | refine fork_intro ?_ ?_) <;> intro h <;> try (exfalso; first | omega | exact h rfl | (revert h; decide) | (cases h; done)))
    | ((with_reducible show False); omega)
    | ((first | (with_reducible first | refine r_exit ?_ | refine r_skip ?_ | refine r_cond ?_ | refine r_region ?_ | refine r_ret ?_ | show VX _ _ _ _ _ _ _ | show vstep _ _ _ _ _ | show vskip _ _ _ | show withV _ _) | ((with_reducible show endA _ _ _ _ _ _ _); simp -implicitDefEqProofs only [endA]) | (with_reducible first | refine pick_viewG default (by first | omega | (simp only [LN]; omega)) (by first | omega | (simp only [LN]; omega)) ?_ | refine pick_own default (by first | omega | (simp only [LN]; omega)) ?_ | refine And.intro (by first | decide | omega | assumption | (simp only [LN]; omega)) ?_) | ((with_reducible show pickE _ _ _); first | refine pickE_intro _ ⟨by omega, by rfl⟩ ?_ | refine pickE_intro _ (by rfl) ?_) | fail); try simp -dsimp -implicitDefEqProofs (maxSteps := 1000000) (disch := first | omega | (simp only [LN]; omega)) only [go_sem])
    | fail)
   all_goals first | omega | rfl
end Go.Proofs.Ytlldhofcdfejnaa