/- Contracts of functions of this program, and the plain facts that they rest on. No conditions. -/
import Derived.Test.YtcnbngflehiphaaDoorDvNQ
set_option linter.unusedSimpArgs false
set_option linter.unusedVariables false
namespace Go.Proofs.YtcnbngflehiphaaDoor
open Go Go.Ab
attribute [local irreducible] callK callF loopQ vstep vskip pickE hideP
set_option maxRecDepth 100000
attribute [local go_sem] eU eC deO peO cuO liO thO hiO noO
def bytU (l : List UInt8) (o k : Nat) : Nat := (l.getD (o + k) 0).toNat
def wrdU (l : List UInt8) (o : Nat) : Nat → Nat
 | 0 => 0
 | k + 1 => wrdU l o k + bytU l o k * 256 ^ k
theorem bytU_lt (l : List UInt8) (o k : Nat) : bytU l o k < 256 := by unfold bytU; exact UInt8.toNat_lt _
theorem wrdU_lt (l : List UInt8) (o : Nat) : ∀ k, wrdU l o k < 256 ^ k
 | 0 => by simp [wrdU]
 | k + 1 => by
  have h1 := wrdU_lt l o k
  have h2 := bytU_lt l o k
  have h3 : bytU l o k * 256 ^ k ≤ 255 * 256 ^ k := Nat.mul_le_mul_right _ (by omega)
  rw [wrdU, Nat.pow_succ]; omega
theorem borU_add (a b : Int) (i : Nat) (ha0 : 0 ≤ a) (ha : a < 2 ^ i) (hb : 0 ≤ b) (hab : a + b * 2 ^ i < 18446744073709551616) :
  ((BitVec.ofInt 64 a ||| BitVec.ofInt 64 (b * 2 ^ i)).toNat : Int) = a + b * 2 ^ i := by
 obtain ⟨m, rfl⟩ := Int.eq_ofNat_of_zero_le ha0
 obtain ⟨n, rfl⟩ := Int.eq_ofNat_of_zero_le hb
 have e : ((n : Int) * 2 ^ i) = ((n * 2 ^ i : Nat) : Int) := by simp
 rw [e] at hab ⊢
 have hm : m < 2 ^ i := by exact_mod_cast ha
 have hs : m + n * 2 ^ i < 2 ^ 64 := by omega
 rw [BitVec.toNat_or, BitVec.ofInt_natCast, BitVec.ofInt_natCast, BitVec.toNat_ofNat, BitVec.toNat_ofNat, Nat.mod_eq_of_lt (by omega), Nat.mod_eq_of_lt (by omega)]
 have := Nat.shiftLeft_add_eq_or_of_lt hm n
 rw [Nat.shiftLeft_eq] at this
 rw [Nat.or_comm, ← this]
 push_cast; omega
theorem pow8U (k : Nat) : (2 : Int) ^ (8 * k) = ((256 ^ k : Nat) : Int) := by rw [Int.pow_mul, Int.natCast_pow]; rfl
theorem wrd_core (a b q i : Nat) (hq : (2 : Int) ^ i = (q : Int)) (h1 : b < 256) (h2 : a < q) (h3 : a + b * q < 18446744073709551616) :
  IntKind.u64.wrap ((BitVec.ofInt 64 (a : Int) ||| BitVec.ofInt 64 (IntKind.u64.wrap (IntKind.u64.wrap (b : Int) * 2 ^ i))).toNat : Int) = ((a + b * q : Nat) : Int) := by
 have e1 : IntKind.u64.wrap (b : Int) = b := by rw [IntKind.wrap_u64]; omega
 have e2 : (b : Int) * 2 ^ i = ((b * q : Nat) : Int) := by rw [hq, Int.natCast_mul]
 have e3 : IntKind.u64.wrap ((b : Int) * 2 ^ i) = (b : Int) * 2 ^ i := by rw [e2, IntKind.wrap_u64]; omega
 have e4 := borU_add a b i (by omega) (by rw [hq]; omega) (by omega) (by rw [e2]; omega)
 rw [e1, e3, e4, e2, IntKind.wrap_u64]
 omega
def fW (p : List UInt8) (m i : Nat) : List Int := (List.range m).map fun j => ((wrdU p (8 * j) (min 8 (i - 8 * j)) : Nat) : Int)
theorem fW_len (p : List UInt8) (m i : Nat) : (fW p m i).length = m := by simp [fW]
theorem fW_0 (p : List UInt8) (m : Nat) : List.replicate m (PV.v (.int .u64 0)) = (fW p m 0).map eU := by
 unfold fW
 apply List.ext_getElem (by simp)
 intro i h1 h2
 simp [wrdU, eU]
theorem fW_get (p : List UInt8) (m i j : Nat) (hj : j < m) (d : Int) : (fW p m i).getD j d = ((wrdU p (8 * j) (min 8 (i - 8 * j)) : Nat) : Int) := by
 unfold fW; simp [List.getD_eq_getElem?_getD, hj]
theorem fW_s (p : List UInt8) (m i : Nat) (hi : i < 8 * m) (x : Int) (hx : x = ((wrdU p (8 * (i / 8)) (i % 8 + 1) : Nat) : Int)) : ((fW p m i).map eU).set (i / 8) (.v (.int .u64 x)) = (fW p m (i + 1)).map eU := by
 subst hx
 unfold fW
 apply List.ext_getElem (by simp)
 intro j h1 h2
 rw [List.getElem_set]
 simp only [List.getElem_map, List.getElem_range, eU]
 by_cases e : i / 8 = j
 ·subst e; rw [if_pos rfl, show min 8 (i + 1 - 8 * (i / 8)) = i % 8 + 1 by omega]
 ·rw [if_neg e]
  by_cases h : j < i / 8
  ·rw [show min 8 (i - 8 * j) = 8 by omega, show min 8 (i + 1 - 8 * j) = 8 by omega]
  ·rw [show min 8 (i - 8 * j) = 0 by omega, show min 8 (i + 1 - 8 * j) = 0 by omega]
set_option maxRecDepth 100000 in
set_option maxHeartbeats 4000000 in
theorem dFrom6 (p : List UInt8) (n : Nat) (hp : p.length = 64 * n) (hn : 0 < n ∧ n ≤ 6) : ACalls Tryd.prog 42 [.p (.view 1 (p.map eC))] [] (.tup [.loc 0 0, .p (.v (.int .i64 0))]) [deO (Dv.fresh n (fW p (8 * n) p.length)) 1 2 3 4, peO (Dv.fresh n (fW p (8 * n) p.length)), cuO (Dv.fresh n (fW p (8 * n) p.length)), liO (Dv.fresh n (fW p (8 * n) p.length)) J0 12, thO (Dv.fresh n (fW p (8 * n) p.length)) 0 0 18, thO (Dv.fresh n (fW p (8 * n) p.length)) 1 0 18, thO (Dv.fresh n (fW p (8 * n) p.length)) 2 0 18, thO (Dv.fresh n (fW p (8 * n) p.length)) 3 0 18, thO (Dv.fresh n (fW p (8 * n) p.length)) 4 0 18, thO (Dv.fresh n (fW p (8 * n) p.length)) 5 0 18, thO (Dv.fresh n (fW p (8 * n) p.length)) 6 0 18, thO (Dv.fresh n (fW p (8 * n) p.length)) 7 0 18, hiO (Dv.fresh n (fW p (8 * n) p.length)) J0 0, hiO (Dv.fresh n (fW p (8 * n) p.length)) J0 1, hiO (Dv.fresh n (fW p (8 * n) p.length)) J0 2, hiO (Dv.fresh n (fW p (8 * n) p.length)) J0 3, hiO (Dv.fresh n (fW p (8 * n) p.length)) J0 4, hiO (Dv.fresh n (fW p (8 * n) p.length)) J0 5, noO (Dv.fresh n (fW p (8 * n) p.length)) 0, noO (Dv.fresh n (fW p (8 * n) p.length)) 1, noO (Dv.fresh n (fW p (8 * n) p.length)) 2, noO (Dv.fresh n (fW p (8 * n) p.length)) 3, noO (Dv.fresh n (fW p (8 * n) p.length)) 4, noO (Dv.fresh n (fW p (8 * n) p.length)) 5, noO (Dv.fresh n (fW p (8 * n) p.length)) 6, noO (Dv.fresh n (fW p (8 * n) p.length)) 7] := by
 refine acalls_of (E := E) (fn := Tryd.f42) 48 [.tmp 2, .tmp 3] rfl rfl rfl rfl (by decide) rfl rfl ?_
 have e1 : IntKind.i64.wrap ((p.length : Int).tmod 64) = 0 := by rw [show ((p.length : Int).tmod 64) = ((p.length % 64 : Nat) : Int) from rfl, IntKind.wrap_i64]; omega
 have e2 : IntKind.i64.wrap ((p.length : Int).tdiv 64) = (n : Int) := by rw [show ((p.length : Int).tdiv 64) = ((p.length / 64 : Nat) : Int) from rfl, IntKind.wrap_i64]; omega
 have e3 : IntKind.i64.wrap ((p.length : Int).tdiv 8) = ((8 * n : Nat) : Int) := by rw [show ((p.length : Int).tdiv 8) = ((p.length / 8 : Nat) : Int) from rfl, IntKind.wrap_i64]; omega
 have e4 : ¬ ((p.length : Int) = 0) := by omega
 have e6 : ((p.length : Int).tmod 64) = 0 := by rw [show ((p.length : Int).tmod 64) = ((p.length % 64 : Nat) : Int) from rfl]; omega
 have e7 : ((p.length : Int).tdiv 64) = (n : Int) := by rw [show ((p.length : Int).tdiv 64) = ((p.length / 64 : Nat) : Int) from rfl]; omega
 have e8 : ((p.length : Int).tdiv 8) = ((8 * n : Nat) : Int) := by rw [show ((p.length : Int).tdiv 8) = ((p.length / 8 : Nat) : Int) from rfl]; omega
 have e5 : ¬ (4096 < (n : Int)) := by omega
 repeat' (first
  | (with_reducible first | refine r_seq ?_ | refine r_block ?_ | refine fork_not ?_ | refine fork_and ?_ | refine fork_or ?_ | refine chk_ok (by kernel_rfl) ?_)
  | ((with_reducible first | refine fork_dec ?_ ?_ | refine fork_eq ?_ ?_ | refine fork_ne ?_ ?_ | refine fork_intro ?_ ?_) <;> intro h <;> try (exfalso; first | omega | exact h rfl | (revert h; decide) | (cases h; done)))
  | ((with_reducible show False); omega)
  | ((first | (with_reducible first | refine r_exit ?_ | refine r_skip ?_ | refine r_cond ?_ | refine r_region ?_ | refine r_ret ?_ | show VX _ _ _ _ _ _ _ | show vstep _ _ _ _ _ | show vskip _ _ _ | show withV _ _) | ((with_reducible show endA _ _ _ _ _ _ _); simp -implicitDefEqProofs only [endA]) | (with_reducible first | refine pick_viewG default (by first | omega | (simp only [LN, e1, e2, e3, e4, e5, e6, e7, e8]; omega)) (by first | omega | (simp only [LN, e1, e2, e3, e4, e5, e6, e7, e8]; omega)) ?_ | refine pick_own default (by first | omega | (simp only [LN, e1, e2, e3, e4, e5, e6, e7, e8]; omega)) ?_ | refine And.intro (by first | decide | omega | assumption | (simp only [LN, e1, e2, e3, e4, e5, e6, e7, e8]; omega)) ?_) | ((with_reducible show pickE _ _ _); first | refine pickE_intro _ ⟨by omega, by rfl⟩ ?_ | refine pickE_intro _ (by rfl) ?_) | fail); try simp -dsimp -implicitDefEqProofs (maxSteps := 1000000) (disch := first | omega | (simp only [LN, e1, e2, e3, e4, e5, e6, e7, e8]; omega)) only [go_sem, e1, e2, e3, e4, e5, e6, e7, e8])
  | fail)
 all_goals try (exfalso; omega)
 refine r_loopA (α := Nat) [4, 24, 25] (fun i b => [(26, aI i)]) (fun i b => [(4, .arr 1 ((fW p (8 * n) i).map eU))]) (fun i => []) (fun i => i ≤ p.length) (fun i => p.length - i) (0) ?h0_1 ?hs0_1 ?I_1 ?hI_1 ?round_1
 case hI_1 => intro x; (simp -dsimp -implicitDefEqProofs (maxSteps := 1000000) (disch := first | omega | (simp only [LN]; omega)) only [go_sem]) <;> exact rfl
 case hs0_1 => refine wk_auto ?_; (simp -dsimp -implicitDefEqProofs (maxSteps := 1000000) (disch := first | omega | (simp only [LN, fW_0 p (8 * n)]; omega)) only [go_sem, fW_0 p (8 * n)]) <;> (try omega)
 case h0_1 => exact Nat.zero_le _
 case round_1 =>
  intro i h1
  by_cases hi : i < p.length
  ·have e1 : IntKind.i64.wrap ((i : Int).tdiv 8) = ((i / 8 : Nat) : Int) := by rw [show ((i : Int).tdiv 8) = ((i / 8 : Nat) : Int) from rfl, IntKind.wrap_i64]; omega
   have e2 : (i : Int).tmod 8 = ((i % 8 : Nat) : Int) := rfl
   have e3 : IntKind.i64.wrap (((i % 8 : Nat) : Int) * 8) = ((i % 8 * 8 : Nat) : Int) := by rw [IntKind.wrap_i64]; omega
   have e4 : ((i : Int) / 8).toNat = i / 8 := by omega
   have hl := fW_len p (8 * n) i
   have e5 : (IntKind.u64.wrap ((i % 8 * 8 : Nat) : Int)).toNat = i % 8 * 8 := by rw [IntKind.wrap_u64]; omega
   have e6 : min (i % 8 * 8) 64 = i % 8 * 8 := by omega
   have hq := wrdU_lt p (8 * (i / 8)) (i % 8 + 1)
   have h4 : (256 : Nat) ^ (i % 8 + 1) ≤ 256 ^ 8 := Nat.pow_le_pow_right (by decide) (by omega)
   have h5 : (256 : Nat) ^ 8 = 18446744073709551616 := by decide
   have e7 := wrd_core (wrdU p (8 * (i / 8)) (i % 8)) (bytU p (8 * (i / 8)) (i % 8)) (256 ^ (i % 8)) (i % 8 * 8) (by rw [Nat.mul_comm]; exact pow8U _) (bytU_lt _ _ _) (wrdU_lt _ _ _) (Nat.lt_of_lt_of_le hq (h5 ▸ h4))
   have e8 : (fW p (8 * n) i).getD (i / 8) default = ((wrdU p (8 * (i / 8)) (i % 8) : Nat) : Int) := by
    rw [fW_get _ _ _ _ (by omega), show min 8 (i - 8 * (i / 8)) = i % 8 by omega]
   have e9 : (p.getD i default).toNat = bytU p (8 * (i / 8)) (i % 8) := by unfold bytU; rw [show 8 * (i / 8) + i % 8 = i by omega]; rfl
   have hs := fW_s p (8 * n) i (by omega) _ e7
   repeat' (first
    | (with_reducible first | refine r_seq ?_ | refine r_block ?_ | refine fork_not ?_ | refine fork_and ?_ | refine fork_or ?_ | refine chk_ok (by kernel_rfl) ?_)
    | ((with_reducible first | refine fork_dec ?_ ?_ | refine fork_eq ?_ ?_ | refine fork_ne ?_ ?_ | refine fork_intro ?_ ?_) <;> intro h <;> try (exfalso; first | omega | exact h rfl | (revert h; decide) | (cases h; done)))
    | ((with_reducible show False); omega)
    | ((first | (with_reducible first | refine r_exit ?_ | refine r_skip ?_ | refine r_cond ?_ | refine r_region ?_ | refine r_ret ?_ | show VX _ _ _ _ _ _ _ | show vstep _ _ _ _ _ | show vskip _ _ _ | show withV _ _) | ((with_reducible show endA _ _ _ _ _ _ _); simp -implicitDefEqProofs only [endA]) | (with_reducible first | refine pick_viewG default (by first | omega | (simp only [LN, e1, e2, e3, e4, hl, e5, e6, e8, e9]; omega)) (by first | omega | (simp only [LN, e1, e2, e3, e4, hl, e5, e6, e8, e9]; omega)) ?_ | refine pick_own default (by first | omega | (simp only [LN, e1, e2, e3, e4, hl, e5, e6, e8, e9]; omega)) ?_ | refine And.intro (by first | decide | omega | assumption | (simp only [LN, e1, e2, e3, e4, hl, e5, e6, e8, e9]; omega)) ?_) | ((with_reducible show pickE _ _ _); first | refine pickE_intro _ ⟨by omega, by rfl⟩ ?_ | refine pickE_intro _ (by rfl) ?_) | fail); try simp -dsimp -implicitDefEqProofs (maxSteps := 1000000) (disch := first | omega | (simp only [LN, e1, e2, e3, e4, hl, e5, e6, e8, e9]; omega)) only [go_sem, e1, e2, e3, e4, hl, e5, e6, e8, e9])
    | fail)
   all_goals first | omega | ((refine loopQ_next (i + 1) ?_ ?_ ?_; (omega); (show _ < _; omega); (simp -dsimp -implicitDefEqProofs (maxSteps := 1000000) (disch := first | omega | (simp only [LN, hs]; omega)) only [go_sem, hs]; try trivial)); exact .inl hs)
  ·obtain rfl : i = p.length := by omega
   repeat' (first
    | (with_reducible first | refine r_seq ?_ | refine r_block ?_ | refine fork_not ?_ | refine fork_and ?_ | refine fork_or ?_ | refine chk_ok (by kernel_rfl) ?_)
    | ((with_reducible first | refine fork_dec ?_ ?_ | refine fork_eq ?_ ?_ | refine fork_ne ?_ ?_ | refine fork_intro ?_ ?_) <;> intro h <;> try (exfalso; first | omega | exact h rfl | (revert h; decide) | (cases h; done)))
    | ((with_reducible show False); omega)
    | ((first | (with_reducible first | refine r_exit ?_ | refine r_skip ?_ | refine r_cond ?_ | refine r_region ?_ | refine r_ret ?_ | show VX _ _ _ _ _ _ _ | show vstep _ _ _ _ _ | show vskip _ _ _ | show withV _ _) | ((with_reducible show endA _ _ _ _ _ _ _); simp -implicitDefEqProofs only [endA]) | (with_reducible first | refine pick_viewG default (by first | omega | (simp only [LN, fW_len]; omega)) (by first | omega | (simp only [LN, fW_len]; omega)) ?_ | refine pick_own default (by first | omega | (simp only [LN, fW_len]; omega)) ?_ | refine And.intro (by first | decide | omega | assumption | (simp only [LN, fW_len]; omega)) ?_) | (with_reducible first | apply callK_lent | apply callF_lent | apply hideP_own) | ((with_reducible apply callA_go); (first | exact dOf6 _ n (fW_len _ _ _) hn | fail)) | ((with_reducible show pickE _ _ _); first | refine pickE_intro _ ⟨by omega, by rfl⟩ ?_ | refine pickE_intro _ (by rfl) ?_) | fail); try simp -dsimp -implicitDefEqProofs (maxSteps := 1000000) (disch := first | omega | (simp only [LN, fW_len]; omega)) only [go_sem, fW_len])
    | fail)
   all_goals first | omega | (simp [Dv.fresh, jk]; done)
end Go.Proofs.YtcnbngflehiphaaDoor