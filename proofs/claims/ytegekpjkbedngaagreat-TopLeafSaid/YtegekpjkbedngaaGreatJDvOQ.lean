/- Contracts of functions of this program, and the plain facts that they rest on. No conditions. -/
import Derived.Test.YtegekpjkbedngaaGreatJDvQQ
import Derived.Test.YtegekpjkbedngaaGreatJDvFQ
import Derived.Test.YtegekpjkbedngaaGreatJPlCQ
set_option linter.unusedSectionVars false
set_option linter.unusedSimpArgs false
set_option linter.unusedVariables false
namespace Go.Proofs.YtegekpjkbedngaaGreat
set_option maxHeartbeats 4000000
set_option maxRecDepth 100000
open Go Go.Ab
attribute [local irreducible] callK callF loopQ vstep vskip pickE hideP
attribute [local go_sem] eU eC deO peO cuO liO thO hiO noO
def bytU (l : List UInt8) (o k : Nat) : Nat := (l.getD (o + k) 0).toNat
def wrdU (l : List UInt8) (o : Nat) : Nat → Nat
 | 0 => 0
 | k + 1 => wrdU l o k + bytU l o k * 256 ^ k
theorem bytU_lt (l : List UInt8) (o k : Nat) : bytU l o k < 256 := by unfold bytU; exact UInt8.toNat_lt _
theorem wrdU_lt (l : List UInt8) (o : Nat) : ∀ k, wrdU l o k < 256 ^ k
 | 0 => by simp [wrdU]
 | k + 1 => by
  have h1 := wrdU_lt l o k
  have h2 := bytU_lt l o k
  have h3 : bytU l o k * 256 ^ k ≤ 255 * 256 ^ k := Nat.mul_le_mul_right _ (by omega)
  rw [wrdU, Nat.pow_succ]; omega
theorem borU_add (a b : Int) (i : Nat) (ha0 : 0 ≤ a) (ha : a < 2 ^ i) (hb : 0 ≤ b) (hab : a + b * 2 ^ i < 18446744073709551616) :
  ((BitVec.ofInt 64 a ||| BitVec.ofInt 64 (b * 2 ^ i)).toNat : Int) = a + b * 2 ^ i := by
 obtain ⟨m, rfl⟩ := Int.eq_ofNat_of_zero_le ha0
 obtain ⟨n, rfl⟩ := Int.eq_ofNat_of_zero_le hb
 have e : ((n : Int) * 2 ^ i) = ((n * 2 ^ i : Nat) : Int) := by simp
 rw [e] at hab ⊢
 have hm : m < 2 ^ i := by exact_mod_cast ha
 have hs : m + n * 2 ^ i < 2 ^ 64 := by omega
 rw [BitVec.toNat_or, BitVec.ofInt_natCast, BitVec.ofInt_natCast, BitVec.toNat_ofNat, BitVec.toNat_ofNat, Nat.mod_eq_of_lt (by omega), Nat.mod_eq_of_lt (by omega)]
 have := Nat.shiftLeft_add_eq_or_of_lt hm n
 rw [Nat.shiftLeft_eq] at this
 rw [Nat.or_comm, ← this]
 push_cast; omega
theorem pow8V (k : Nat) : (2 : Int) ^ (8 * k) = 256 ^ k := by rw [Int.pow_mul]; rfl
theorem pow8U (k : Nat) : (2 : Int) ^ (8 * k) = ((256 ^ k : Nat) : Int) := by rw [Int.pow_mul, Int.natCast_pow]; rfl
theorem wrd_core (a b q i : Nat) (hq : (2 : Int) ^ i = (q : Int)) (h1 : b < 256) (h2 : a < q) (h3 : a + b * q < 18446744073709551616) :
  IntKind.u64.wrap ((BitVec.ofInt 64 (a : Int) ||| BitVec.ofInt 64 (IntKind.u64.wrap (IntKind.u64.wrap (b : Int) * 2 ^ i))).toNat : Int) = ((a + b * q : Nat) : Int) := by
 have e1 : IntKind.u64.wrap (b : Int) = b := by rw [IntKind.wrap_u64]; omega
 have e2 : (b : Int) * 2 ^ i = ((b * q : Nat) : Int) := by rw [hq, Int.natCast_mul]
 have e3 : IntKind.u64.wrap ((b : Int) * 2 ^ i) = (b : Int) * 2 ^ i := by rw [e2, IntKind.wrap_u64]; omega
 have e4 := borU_add a b i (by omega) (by rw [hq]; omega) (by omega) (by rw [e2]; omega)
 rw [e1, e3, e4, e2, IntKind.wrap_u64]
 omega
def fW (p : List UInt8) (m i : Nat) : List Int := (List.range m).map fun j => ((wrdU p (8 * j) (min 8 (i - 8 * j)) : Nat) : Int)
theorem fW_len (p : List UInt8) (m i : Nat) : (fW p m i).length = m := by simp [fW]
theorem fW_0 (p : List UInt8) (m : Nat) : List.replicate m (PV.v (.int .u64 0)) = (fW p m 0).map eU := by
 unfold fW
 apply List.ext_getElem (by simp)
 intro i h1 h2
 simp [wrdU, eU]
theorem fW_get (p : List UInt8) (m i j : Nat) (hj : j < m) (d : Int) : (fW p m i).getD j d = ((wrdU p (8 * j) (min 8 (i - 8 * j)) : Nat) : Int) := by
 unfold fW; simp [List.getD_eq_getElem?_getD, hj]
theorem fW_s (p : List UInt8) (m i : Nat) (hi : i < 8 * m) (x : Int) (hx : x = ((wrdU p (8 * (i / 8)) (i % 8 + 1) : Nat) : Int)) : ((fW p m i).map eU).set (i / 8) (.v (.int .u64 x)) = (fW p m (i + 1)).map eU := by
 subst hx
 unfold fW
 apply List.ext_getElem (by simp)
 intro j h1 h2
 rw [List.getElem_set]
 simp only [List.getElem_map, List.getElem_range, eU]
 by_cases e : i / 8 = j
 ·subst e; rw [if_pos rfl, show min 8 (i + 1 - 8 * (i / 8)) = i % 8 + 1 by omega]
 ·rw [if_neg e]
  by_cases h : j < i / 8
  ·rw [show min 8 (i - 8 * j) = 8 by omega, show min 8 (i + 1 - 8 * j) = 8 by omega]
  ·rw [show min 8 (i - 8 * j) = 0 by omega, show min 8 (i + 1 - 8 * j) = 0 by omega]
theorem dFrom6 (p : List UInt8) (n : Nat) (hp : p.length = 64 * n) (hn : 0 < n ∧ n ≤ 8) : ACalls Tryz.prog 48 [.p (.view 1 (p.map eC))] [] (.tup [.loc 0 0, .p (.v (.int .i64 0))]) [deO (Dv.fresh n (fW p (8 * n) p.length)) 1 2 3 4, peO (Dv.fresh n (fW p (8 * n) p.length)), cuO (Dv.fresh n (fW p (8 * n) p.length)), liO (Dv.fresh n (fW p (8 * n) p.length)) J0 12, thO (Dv.fresh n (fW p (8 * n) p.length)) 0 0 20, thO (Dv.fresh n (fW p (8 * n) p.length)) 1 0 20, thO (Dv.fresh n (fW p (8 * n) p.length)) 2 0 20, thO (Dv.fresh n (fW p (8 * n) p.length)) 3 0 20, thO (Dv.fresh n (fW p (8 * n) p.length)) 4 0 20, thO (Dv.fresh n (fW p (8 * n) p.length)) 5 0 20, thO (Dv.fresh n (fW p (8 * n) p.length)) 6 0 20, thO (Dv.fresh n (fW p (8 * n) p.length)) 7 0 20, hiO (Dv.fresh n (fW p (8 * n) p.length)) J0 0, hiO (Dv.fresh n (fW p (8 * n) p.length)) J0 1, hiO (Dv.fresh n (fW p (8 * n) p.length)) J0 2, hiO (Dv.fresh n (fW p (8 * n) p.length)) J0 3, hiO (Dv.fresh n (fW p (8 * n) p.length)) J0 4, hiO (Dv.fresh n (fW p (8 * n) p.length)) J0 5, hiO (Dv.fresh n (fW p (8 * n) p.length)) J0 6, hiO (Dv.fresh n (fW p (8 * n) p.length)) J0 7, noO (Dv.fresh n (fW p (8 * n) p.length)) 0, noO (Dv.fresh n (fW p (8 * n) p.length)) 1, noO (Dv.fresh n (fW p (8 * n) p.length)) 2, noO (Dv.fresh n (fW p (8 * n) p.length)) 3, noO (Dv.fresh n (fW p (8 * n) p.length)) 4, noO (Dv.fresh n (fW p (8 * n) p.length)) 5, noO (Dv.fresh n (fW p (8 * n) p.length)) 6, noO (Dv.fresh n (fW p (8 * n) p.length)) 7] := by
 refine yA (E := E) (fn := Tryz.f48) 48 [.tmp 2, .tmp 3] rfl rfl rfl rfl (by decide) rfl rfl ?_
 have e1 : IntKind.i64.wrap ((p.length : Int).tmod 64) = 0 := by rw [show ((p.length : Int).tmod 64) = ((p.length % 64 : Nat) : Int) from rfl, IntKind.wrap_i64]; omega
 have e2 : IntKind.i64.wrap ((p.length : Int).tdiv 64) = (n : Int) := by rw [show ((p.length : Int).tdiv 64) = ((p.length / 64 : Nat) : Int) from rfl, IntKind.wrap_i64]; omega
 have e3 : IntKind.i64.wrap ((p.length : Int).tdiv 8) = ((8 * n : Nat) : Int) := by rw [show ((p.length : Int).tdiv 8) = ((p.length / 8 : Nat) : Int) from rfl, IntKind.wrap_i64]; omega
 have e4 : ¬ ((p.length : Int) = 0) := by omega
 have e6 : ((p.length : Int).tmod 64) = 0 := by rw [show ((p.length : Int).tmod 64) = ((p.length % 64 : Nat) : Int) from rfl]; omega
 have e7 : ((p.length : Int).tdiv 64) = (n : Int) := by rw [show ((p.length : Int).tdiv 64) = ((p.length / 64 : Nat) : Int) from rfl]; omega
 have e8 : ((p.length : Int).tdiv 8) = ((8 * n : Nat) : Int) := by rw [show ((p.length : Int).tdiv 8) = ((p.length / 8 : Nat) : Int) from rfl]; omega
 have e5 : ¬ (4096 < (n : Int)) := by omega
 repeat' (first
  | (with_reducible first | apply zY | apply zT | apply zM | apply zN | apply zO | refine chk_ok (by kernel_rfl) ?_)
  | ((with_reducible first | apply zP | apply zQ | apply zR | apply zL) <;> intro h <;> try (exfalso; first | omega | exact h rfl | (revert h; decide) | (cases h; done)))
  | ((with_reducible show False); omega)
  | ((first | (with_reducible first | apply zW | apply zV | apply zU | apply zS | apply zX | show VX _ _ _ _ _ _ _ | show vstep _ _ _ _ _ | show vskip _ _ _ | show withV _ _) | ((with_reducible show endA _ _ _ _ _ _ _); simp -implicitDefEqProofs only [endA]) | (with_reducible first | refine zB default (by first | omega | (simp only [LN, e1, e2, e3, e4, e5, e6, e7, e8]; omega)) (by first | omega | (simp only [LN, e1, e2, e3, e4, e5, e6, e7, e8]; omega)) ?_ | refine zC default (by first | omega | (simp only [LN, e1, e2, e3, e4, e5, e6, e7, e8]; omega)) ?_ | refine And.intro (by first | decide | omega | assumption | (simp only [LN, e1, e2, e3, e4, e5, e6, e7, e8]; omega)) ?_) | ((with_reducible show pickE _ _ _); first | refine zA _ ⟨by omega, by rfl⟩ ?_ | refine zA _ (by rfl) ?_) | fail); try simp -dsimp -implicitDefEqProofs (maxSteps := 1000000) (disch := first | omega | (simp only [LN, e1, e2, e3, e4, e5, e6, e7, e8]; omega)) only [go_sem, e1, e2, e3, e4, e5, e6, e7, e8])
  | fail)
 all_goals try (exfalso; omega)
 refine r_loopA (α := Nat) [4, 24, 25] (fun i b => [(26, aI i)]) (fun i b => [(4, .arr 1 ((fW p (8 * n) i).map eU))]) (fun i => []) (fun i => i ≤ p.length) (fun i => p.length - i) (0) ?h0_1 ?hs0_1 ?I_1 ?hI_1 ?round_1
 case hI_1 => intro x; (simp -dsimp -implicitDefEqProofs (maxSteps := 1000000) (disch := first | omega | (simp only [LN]; omega)) only [go_sem]) <;> exact rfl
 case hs0_1 => refine wk_auto ?_; (simp -dsimp -implicitDefEqProofs (maxSteps := 1000000) (disch := first | omega | (simp only [LN, fW_0 p (8 * n)]; omega)) only [go_sem, fW_0 p (8 * n)]) <;> (try omega)
 case h0_1 => exact Nat.zero_le _
 case round_1 =>
  intro i h1
  by_cases hi : i < p.length
  ·have e1 : IntKind.i64.wrap ((i : Int).tdiv 8) = ((i / 8 : Nat) : Int) := by rw [show ((i : Int).tdiv 8) = ((i / 8 : Nat) : Int) from rfl, IntKind.wrap_i64]; omega
   have e2 : (i : Int).tmod 8 = ((i % 8 : Nat) : Int) := rfl
   have e3 : IntKind.i64.wrap (((i % 8 : Nat) : Int) * 8) = ((i % 8 * 8 : Nat) : Int) := by rw [IntKind.wrap_i64]; omega
   have e4 : ((i : Int) / 8).toNat = i / 8 := by omega
   have hl := fW_len p (8 * n) i
   have e5 : (IntKind.u64.wrap ((i % 8 * 8 : Nat) : Int)).toNat = i % 8 * 8 := by rw [IntKind.wrap_u64]; omega
   have e6 : min (i % 8 * 8) 64 = i % 8 * 8 := by omega
   have hq := wrdU_lt p (8 * (i / 8)) (i % 8 + 1)
   have h4 : (256 : Nat) ^ (i % 8 + 1) ≤ 256 ^ 8 := Nat.pow_le_pow_right (by decide) (by omega)
   have h5 : (256 : Nat) ^ 8 = 18446744073709551616 := by decide
   have e7 := wrd_core (wrdU p (8 * (i / 8)) (i % 8)) (bytU p (8 * (i / 8)) (i % 8)) (256 ^ (i % 8)) (i % 8 * 8) (by rw [Nat.mul_comm]; exact pow8U _) (bytU_lt _ _ _) (wrdU_lt _ _ _) (Nat.lt_of_lt_of_le hq (h5 ▸ h4))
   have e8 : (fW p (8 * n) i).getD (i / 8) default = ((wrdU p (8 * (i / 8)) (i % 8) : Nat) : Int) := by
    rw [fW_get _ _ _ _ (by omega), show min 8 (i - 8 * (i / 8)) = i % 8 by omega]
   have e9 : (p.getD i default).toNat = bytU p (8 * (i / 8)) (i % 8) := by unfold bytU; rw [show 8 * (i / 8) + i % 8 = i by omega]; rfl
   have hs := fW_s p (8 * n) i (by omega) _ e7
   repeat' (first
    | (with_reducible first | apply zY | apply zT | apply zM | apply zN | apply zO | refine chk_ok (by kernel_rfl) ?_)
    | ((with_reducible first | apply zP | apply zQ | apply zR | apply zL) <;> intro h <;> try (exfalso; first | omega | exact h rfl | (revert h; decide) | (cases h; done)))
    | ((with_reducible show False); omega)
    | ((first | (with_reducible first | apply zW | apply zV | apply zU | apply zS | apply zX | show VX _ _ _ _ _ _ _ | show vstep _ _ _ _ _ | show vskip _ _ _ | show withV _ _) | ((with_reducible show endA _ _ _ _ _ _ _); simp -implicitDefEqProofs only [endA]) | (with_reducible first | refine zB default (by first | omega | (simp only [LN, e1, e2, e3, e4, hl, e5, e6, e8, e9]; omega)) (by first | omega | (simp only [LN, e1, e2, e3, e4, hl, e5, e6, e8, e9]; omega)) ?_ | refine zC default (by first | omega | (simp only [LN, e1, e2, e3, e4, hl, e5, e6, e8, e9]; omega)) ?_ | refine And.intro (by first | decide | omega | assumption | (simp only [LN, e1, e2, e3, e4, hl, e5, e6, e8, e9]; omega)) ?_) | ((with_reducible show pickE _ _ _); first | refine zA _ ⟨by omega, by rfl⟩ ?_ | refine zA _ (by rfl) ?_) | fail); try simp -dsimp -implicitDefEqProofs (maxSteps := 1000000) (disch := first | omega | (simp only [LN, e1, e2, e3, e4, hl, e5, e6, e8, e9]; omega)) only [go_sem, e1, e2, e3, e4, hl, e5, e6, e8, e9])
    | fail)
   all_goals first | omega | ((refine zZ (i + 1) ?_ ?_ ?_; (omega); (show _ < _; omega); (simp -dsimp -implicitDefEqProofs (maxSteps := 1000000) (disch := first | omega | (simp only [LN, hs]; omega)) only [go_sem, hs]; try trivial)); exact .inl hs)
  ·obtain rfl : i = p.length := by omega
   repeat' (first
    | (with_reducible first | apply zY | apply zT | apply zM | apply zN | apply zO | refine chk_ok (by kernel_rfl) ?_)
    | ((with_reducible first | apply zP | apply zQ | apply zR | apply zL) <;> intro h <;> try (exfalso; first | omega | exact h rfl | (revert h; decide) | (cases h; done)))
    | ((with_reducible show False); omega)
    | ((first | (with_reducible first | apply zW | apply zV | apply zU | apply zS | apply zX | show VX _ _ _ _ _ _ _ | show vstep _ _ _ _ _ | show vskip _ _ _ | show withV _ _) | ((with_reducible show endA _ _ _ _ _ _ _); simp -implicitDefEqProofs only [endA]) | (with_reducible first | refine zB default (by first | omega | (simp only [LN, fW_len]; omega)) (by first | omega | (simp only [LN, fW_len]; omega)) ?_ | refine zC default (by first | omega | (simp only [LN, fW_len]; omega)) ?_ | refine And.intro (by first | decide | omega | assumption | (simp only [LN, fW_len]; omega)) ?_) | (with_reducible first | apply zG | apply zH | apply zI | apply hidePI_own) | ((with_reducible apply zJ); (first | exact dOf6 _ n (fW_len _ _ _) hn | fail)) | ((with_reducible show pickE _ _ _); first | refine zA _ ⟨by omega, by rfl⟩ ?_ | refine zA _ (by rfl) ?_) | fail); try simp -dsimp -implicitDefEqProofs (maxSteps := 1000000) (disch := first | omega | (simp only [LN, fW_len]; omega)) only [go_sem, fW_len])
    | fail)
   all_goals first | omega | (simp [Dv.fresh, jk]; done)
end Go.Proofs.YtegekpjkbedngaaGreat
namespace Go.Proofs.YtegekpjkbedngaaGreat
set_option maxHeartbeats 4000000
set_option maxRecDepth 100000
open Go Go.Ab
attribute [local irreducible] callK callF loopQ vstep vskip pickE hideP
attribute [local go_sem] eWr
theorem acalls_sl0 {P : Program} {f : FuncId} {L L' : List Ob} {r : AV} {i sz st : Nat} (hs : 0 < sz) (h : ACalls P f [.p (.v (.slice none 0 0))] L r L') (h' : ACalls P f [.p (.nview sz [])] L r L') : ACalls P f [.sl i sz st 0] L r L' := by
 refine ⟨h.1, h.2.1, fun Z lb w vals ho hlt hr => ?_⟩
 simp only [AReps] at hr
 obtain ⟨u, us, h1, h2, h3⟩ := hr
 simp only [ARep] at h2
 rcases h2 with ⟨_, _, _, rfl⟩ | ⟨b, cap, _, rfl, h4, _⟩
 ·exact h.2.2 Z lb w vals ho hlt ⟨_, us, h1, ⟨rfl, rfl⟩, h3⟩
 ·exact h'.2.2 Z lb w vals ho hlt ⟨_, us, h1, ⟨[], ⟨b, st * sz, none⟩, cap, rfl, rfl, hs, fun x hx => by simp at hx, Nat.zero_le _, h4, .inl rfl⟩, h3⟩
theorem dCloneE (es : List PV) : ACalls Tryz.prog 75 [.p (.v (.slice none 0 0))] [.arr 2 es] (.p (.view 2 [])) [.arr 2 es] := by
 refine yA (E := E) (fn := Tryz.f75) 8 [.tmp 2] rfl rfl rfl rfl (by decide) rfl rfl ?_
 repeat' (first
  | (with_reducible first | apply zY | apply zT | apply zM | apply zN | apply zO | refine chk_ok (by kernel_rfl) ?_)
  | ((with_reducible first | apply zP | apply zQ | apply zR | apply zL) <;> intro h <;> try (exfalso; first | omega | exact h rfl | (revert h; decide) | (cases h; done)))
  | ((with_reducible show False); omega)
  | ((first | (with_reducible first | apply zW | apply zV | apply zU | apply zS | apply zX | show VX _ _ _ _ _ _ _ | show vstep _ _ _ _ _ | show vskip _ _ _ | show withV _ _) | ((with_reducible show endA _ _ _ _ _ _ _); simp -implicitDefEqProofs only [endA]) | (with_reducible first | refine zB default (by first | omega | (simp only [LN]; omega)) (by first | omega | (simp only [LN]; omega)) ?_ | refine zC default (by first | omega | (simp only [LN]; omega)) ?_ | refine And.intro (by first | decide | omega | assumption | (simp only [LN]; omega)) ?_) | ((with_reducible show pickE _ _ _); first | refine zA _ ⟨by omega, by rfl⟩ ?_ | refine zA _ (by rfl) ?_) | fail); try simp -dsimp -implicitDefEqProofs (maxSteps := 1000000) (disch := first | omega | (simp only [LN]; omega)) only [go_sem])
  | fail)
theorem dCloneE2 (es : List PV) : ACalls Tryz.prog 75 [.p (.nview 2 [])] [.arr 2 es] (.p (.view 2 [])) [.arr 2 es] := by
 refine yA (E := E) (fn := Tryz.f75) 8 [.tmp 2] rfl rfl rfl rfl (by decide) rfl rfl ?_
 repeat' (first
  | (with_reducible first | apply zY | apply zT | apply zM | apply zN | apply zO | refine chk_ok (by kernel_rfl) ?_)
  | ((with_reducible first | apply zP | apply zQ | apply zR | apply zL) <;> intro h <;> try (exfalso; first | omega | exact h rfl | (revert h; decide) | (cases h; done)))
  | ((with_reducible show False); omega)
  | ((first | (with_reducible first | apply zW | apply zV | apply zU | apply zS | apply zX | show VX _ _ _ _ _ _ _ | show vstep _ _ _ _ _ | show vskip _ _ _ | show withV _ _) | ((with_reducible show endA _ _ _ _ _ _ _); simp -implicitDefEqProofs only [endA]) | (with_reducible first | refine zB default (by first | omega | (simp only [LN]; omega)) (by first | omega | (simp only [LN]; omega)) ?_ | refine zC default (by first | omega | (simp only [LN]; omega)) ?_ | refine And.intro (by first | decide | omega | assumption | (simp only [LN]; omega)) ?_) | ((with_reducible show pickE _ _ _); first | refine zA _ ⟨by omega, by rfl⟩ ?_ | refine zA _ (by rfl) ?_) | fail); try simp -dsimp -implicitDefEqProofs (maxSteps := 1000000) (disch := first | omega | (simp only [LN]; omega)) only [go_sem])
  | fail)
theorem dCloneN (es : List PV) (st n : Nat) (h0 : 0 < n) (hn : st + n ≤ es.length) (hl : es.length ≤ 1000000000) : ACalls Tryz.prog 75 [.sl 0 2 st n] [.arr 2 es] (.p (.view 2 ((es.drop st).take n))) [.arr 2 es] := by
 refine yA (E := E) (fn := Tryz.f75) 8 [.tmp 2] rfl rfl rfl rfl (by decide) rfl rfl ?_
 have hl2 : ((es.drop st).take n).length = n := by rw [List.length_take, List.length_drop]; omega
 cases st with
 | zero =>
  rw [List.drop_zero] at hl2 ⊢
  repeat' (first
   | (with_reducible first | apply zY | apply zT | apply zM | apply zN | apply zO | refine chk_ok (by kernel_rfl) ?_)
   | ((with_reducible first | apply zP | apply zQ | apply zR | apply zL) <;> intro h <;> try (exfalso; first | omega | exact h rfl | (revert h; decide) | (cases h; done)))
   | ((with_reducible show False); omega)
   | ((first | (with_reducible first | apply zW | apply zV | apply zU | apply zS | apply zX | show VX _ _ _ _ _ _ _ | show vstep _ _ _ _ _ | show vskip _ _ _ | show withV _ _) | ((with_reducible show endA _ _ _ _ _ _ _); simp -implicitDefEqProofs only [endA]) | (with_reducible first | refine zB default (by first | omega | (simp only [LN, hl2]; omega)) (by first | omega | (simp only [LN, hl2]; omega)) ?_ | refine zC default (by first | omega | (simp only [LN, hl2]; omega)) ?_ | refine And.intro (by first | decide | omega | assumption | (simp only [LN, hl2]; omega)) ?_) | ((with_reducible show pickE _ _ _); first | refine zA _ ⟨by omega, by rfl⟩ ?_ | refine zA _ (by rfl) ?_) | fail); try simp -dsimp -implicitDefEqProofs (maxSteps := 1000000) (disch := first | omega | (simp only [LN, hl2]; omega)) only [go_sem, hl2])
   | fail)
 | succ st =>
  repeat' (first
   | (with_reducible first | apply zY | apply zT | apply zM | apply zN | apply zO | refine chk_ok (by kernel_rfl) ?_)
   | ((with_reducible first | apply zP | apply zQ | apply zR | apply zL) <;> intro h <;> try (exfalso; first | omega | exact h rfl | (revert h; decide) | (cases h; done)))
   | ((with_reducible show False); omega)
   | ((first | (with_reducible first | apply zW | apply zV | apply zU | apply zS | apply zX | show VX _ _ _ _ _ _ _ | show vstep _ _ _ _ _ | show vskip _ _ _ | show withV _ _) | ((with_reducible show endA _ _ _ _ _ _ _); simp -implicitDefEqProofs only [endA]) | (with_reducible first | refine zB default (by first | omega | (simp only [LN, hl2]; omega)) (by first | omega | (simp only [LN, hl2]; omega)) ?_ | refine zC default (by first | omega | (simp only [LN, hl2]; omega)) ?_ | refine And.intro (by first | decide | omega | assumption | (simp only [LN, hl2]; omega)) ?_) | ((with_reducible show pickE _ _ _); first | refine zA _ ⟨by omega, by rfl⟩ ?_ | refine zA _ (by rfl) ?_) | fail); try simp -dsimp -implicitDefEqProofs (maxSteps := 1000000) (disch := first | omega | (simp only [LN, hl2]; omega)) only [go_sem, hl2])
   | fail)
theorem dCloneW (es : List PV) (st n : Nat) (hn : st + n ≤ es.length) (hl : es.length ≤ 1000000000) : ACalls Tryz.prog 75 [.sl 0 2 st n] [.arr 2 es] (.p (.view 2 ((es.drop st).take n))) [.arr 2 es] := by
 rcases Nat.eq_zero_or_pos n with rfl | h0
 ·rw [List.take_zero]; exact acalls_sl0 (by decide) (dCloneE es) (dCloneE2 es)
 ·exact dCloneN es st n h0 hn hl
attribute [local go_sem] eU deO peO cuO liO thO hiO noO
theorem dHist6 (A : Dv) (J : JT) (N : Nat) (h : Inv A J N) (hN : N ≤ 1000000000) (r : Nat) (hr : r < A.n) : ACalls Tryz.prog 60 [.loc 0 0, .p (.v (.int .i64 r))] [deO A 1 2 3 4, peO A, cuO A, liO A J 12, thO A 0 0 20, thO A 1 0 20, thO A 2 0 20, thO A 3 0 20, thO A 4 0 20, thO A 5 0 20, thO A 6 0 20, thO A 7 0 20, hiO A J 0, hiO A J 1, hiO A J 2, hiO A J 3, hiO A J 4, hiO A J 5, hiO A J 6, hiO A J 7, noO A 0, noO A 1, noO A 2, noO A 3, noO A 4, noO A 5, noO A 6, noO A 7] (.p (.view 2 ((A.hist r).map eWr))) [deO A 1 2 3 4, peO A, cuO A, liO A J 12, thO A 0 0 20, thO A 1 0 20, thO A 2 0 20, thO A 3 0 20, thO A 4 0 20, thO A 5 0 20, thO A 6 0 20, thO A 7 0 20, hiO A J 0, hiO A J 1, hiO A J 2, hiO A J 3, hiO A J 4, hiO A J 5, hiO A J 6, hiO A J 7, noO A 0, noO A 1, noO A 2, noO A 3, noO A 4, noO A 5, noO A 6, noO A 7] := by
 refine yA (E := E) (fn := Tryz.f60) 29 [.tmp 4] rfl rfl rfl rfl (by decide) rfl rfl ?_
 have h6 := h.wf.n6
 have hl := h.jl hN r (by omega)
 have hb := h.bd r (by omega)
 have hd := h.wf.len r (by omega)
 have hj := h.jo r (by omega)
 have kc := dCloneW ((jk A J r).map eWr ++ (A.hist r).map eWr) (jk A J r).length (A.hist r).length (by simp) (by simp; omega)
 rw [show (((jk A J r).map eWr ++ (A.hist r).map eWr).drop (jk A J r).length).take (A.hist r).length = (A.hist r).map eWr from by
  rw [show (jk A J r).length = ((jk A J r).map eWr).length by simp, List.drop_left, List.take_of_length_le (by simp)]] at kc
 rcases lt6 (show r < 8 by omega) with rfl | rfl | rfl | rfl | rfl | rfl | rfl | rfl
 all_goals
  repeat' (first
   | (with_reducible first | apply zY | apply zT | apply zM | apply zN | apply zO | refine chk_ok (by kernel_rfl) ?_)
   | ((with_reducible first | apply zP | apply zQ | apply zR | apply zL) <;> intro h <;> try (exfalso; first | omega | exact h rfl | (revert h; decide) | (cases h; done)))
   | ((with_reducible show False); omega)
   | ((first | (with_reducible first | apply zW | apply zV | apply zU | apply zS | apply zX | show VX _ _ _ _ _ _ _ | show vstep _ _ _ _ _ | show vskip _ _ _ | show withV _ _) | ((with_reducible show endA _ _ _ _ _ _ _); simp -implicitDefEqProofs only [endA]) | (with_reducible first | refine zB default (by first | omega | (simp only [LN]; omega)) (by first | omega | (simp only [LN]; omega)) ?_ | refine zC default (by first | omega | (simp only [LN]; omega)) ?_ | refine And.intro (by first | decide | omega | assumption | (simp only [LN]; omega)) ?_) | (with_reducible first | apply zG | apply zH | apply zI | apply hidePI_own) | ((with_reducible apply zJ); (first | exact kc | fail)) | ((with_reducible show pickE _ _ _); first | refine zA _ ⟨by omega, by rfl⟩ ?_ | refine zA _ (by rfl) ?_) | fail); try simp -dsimp -implicitDefEqProofs (maxSteps := 1000000) (disch := first | omega | (simp only [LN]; omega)) only [go_sem])
   | fail)
  refine And.intro (by split <;> (simp <;> omega)) ?_
  repeat' (first
   | (with_reducible first | apply zY | apply zT | apply zM | apply zN | apply zO | refine chk_ok (by kernel_rfl) ?_)
   | ((with_reducible first | apply zP | apply zQ | apply zR | apply zL) <;> intro h <;> try (exfalso; first | omega | exact h rfl | (revert h; decide) | (cases h; done)))
   | ((with_reducible show False); omega)
   | ((first | (with_reducible first | apply zW | apply zV | apply zU | apply zS | apply zX | show VX _ _ _ _ _ _ _ | show vstep _ _ _ _ _ | show vskip _ _ _ | show withV _ _) | ((with_reducible show endA _ _ _ _ _ _ _); simp -implicitDefEqProofs only [endA]) | (with_reducible first | refine zB default (by first | omega | (simp only [LN]; omega)) (by first | omega | (simp only [LN]; omega)) ?_ | refine zC default (by first | omega | (simp only [LN]; omega)) ?_ | refine And.intro (by first | decide | omega | assumption | (simp only [LN]; omega)) ?_) | (with_reducible first | apply zG | apply zH | apply zI | apply hidePI_own) | ((with_reducible apply zJ); (first | exact kc | fail)) | ((with_reducible show pickE _ _ _); first | refine zA _ ⟨by omega, by rfl⟩ ?_ | refine zA _ (by rfl) ?_) | fail); try simp -dsimp -implicitDefEqProofs (maxSteps := 1000000) (disch := first | omega | (simp only [LN]; omega)) only [go_sem])
   | fail)
  all_goals first | omega
end Go.Proofs.YtegekpjkbedngaaGreat
namespace Go.Proofs.YtegekpjkbedngaaGreat
set_option maxHeartbeats 4000000
set_option maxRecDepth 100000
open Go Go.Ab
attribute [local irreducible] callK callF loopQ vstep vskip pickE hideP
def byB (ws : List Int) (m : Nat) : List UInt8 := (List.range m).map fun j => UInt8.ofNat (byW ws j).toNat
theorem byB_len (ws : List Int) (m : Nat) : (byB ws m).length = m := by simp [byB]
theorem byB_take (ws : List Int) (m : Nat) : (byB ws m).take m = byB ws m := List.take_of_length_le (by rw [byB_len]; exact Nat.le_refl m)
theorem dirL_lt (A : Dv) {n x : Nat} (h : x ∈ dirL A n) : x < n := List.mem_range.1 (List.mem_filter.1 h).1
theorem byL_b (ws : List Int) (m : Nat) : byL ws m m = (byB ws m).map eB := by
 unfold byL byB
 rw [List.map_map]
 apply List.map_congr_left
 intro j hj
 rw [if_pos (List.mem_range.1 hj)]
 show _ = eB _
 unfold eB
 have h0 : 0 ≤ byW ws j ∧ byW ws j < 256 := by unfold byW; rw [IntKind.wrap_u8]; omega
 generalize hx : byW ws j = x at *
 congr 2
 rw [UInt8.toNat_ofNat', hx]; omega
def hsL (A : Dv) (i : Nat) : Hs := ((dirL A A.n).take i).map A.hist
theorem hsL_s (A : Dv) {i : Nat} (hi : i < (dirL A A.n).length) : hsL A (i + 1) = hsL A i ++ [A.hist ((dirL A A.n).getD i default)] := by
 unfold hsL; rw [yE default hi, List.map_append]; rfl
theorem hsL_len (A : Dv) {i : Nat} (hi : i ≤ (dirL A A.n).length) : (hsL A i).length = i := by
 unfold hsL; rw [List.length_map, List.length_take]; omega
attribute [local go_sem] eHs eSet eNd eWr eU deO peO cuO liO thO hiO noO
theorem kExam (A : Dv) (J : JT) (N : Nat) (h : Inv A J N) (hN : N ≤ 1000000000) : ACalls Tryz.prog 44 [.loc 0 0] [deO A 1 2 3 4, peO A, cuO A, liO A J 12, thO A 0 0 20, thO A 1 0 20, thO A 2 0 20, thO A 3 0 20, thO A 4 0 20, thO A 5 0 20, thO A 6 0 20, thO A 7 0 20, hiO A J 0, hiO A J 1, hiO A J 2, hiO A J 3, hiO A J 4, hiO A J 5, hiO A J 6, hiO A J 7, noO A 0, noO A 1, noO A 2, noO A 3, noO A 4, noO A 5, noO A 6, noO A 7] (.p (eSet (byB A.per (64 * A.n)) (dirL A A.n) (hsL A (dirL A A.n).length))) [deO A 1 2 3 4, peO A, cuO A, liO A J 12, thO A 0 0 20, thO A 1 0 20, thO A 2 0 20, thO A 3 0 20, thO A 4 0 20, thO A 5 0 20, thO A 6 0 20, thO A 7 0 20, hiO A J 0, hiO A J 1, hiO A J 2, hiO A J 3, hiO A J 4, hiO A J 5, hiO A J 6, hiO A J 7, noO A 0, noO A 1, noO A 2, noO A 3, noO A 4, noO A 5, noO A 6, noO A 7] := by
 refine yA (E := E) (fn := Tryz.f44) 28 [.cell 2 114] rfl rfl rfl rfl (by decide) rfl rfl ?_
 have h6 := h.wf.n6
 have k1 := dPers6 A J h.wf
 have k2 := dDirty6 A J h.wf
 have dl := dirL_len A A.n
 rw [byL_b] at k1
 repeat' (first
  | (with_reducible first | apply zY | apply zT | apply zM | apply zN | apply zO | refine chk_ok (by kernel_rfl) ?_)
  | ((with_reducible first | apply zP | apply zQ | apply zR | apply zL) <;> intro h <;> try (exfalso; first | omega | exact h rfl | (revert h; decide) | (cases h; done)))
  | ((with_reducible show False); omega)
  | ((first | (with_reducible first | apply zW | apply zV | apply zU | apply zS | apply zX | show VX _ _ _ _ _ _ _ | show vstep _ _ _ _ _ | show vskip _ _ _ | show withV _ _) | ((with_reducible show endA _ _ _ _ _ _ _); simp -implicitDefEqProofs only [endA]) | (with_reducible first | refine zB default (by first | omega | (simp only [LN]; omega)) (by first | omega | (simp only [LN]; omega)) ?_ | refine zC default (by first | omega | (simp only [LN]; omega)) ?_ | refine And.intro (by first | decide | omega | assumption | (simp only [LN]; omega)) ?_) | (with_reducible first | apply zG | apply zH | apply zI | apply hidePI_own) | ((with_reducible apply zJ); (first | exact k1 | exact k2 | fail)) | ((with_reducible show pickE _ _ _); first | refine zA _ ⟨by omega, by rfl⟩ ?_ | refine zA _ (by rfl) ?_) | fail); try simp -dsimp -implicitDefEqProofs (maxSteps := 1000000) (disch := first | omega | (simp only [LN]; omega)) only [go_sem])
  | fail)
 refine r_loopA (α := Nat) [0, 2, 3, 13] (fun i b => [(14, aI i), (12, .p (.view 1 ((dirL A A.n).map eNd)))]) (fun i b => [(3, .var [.p (.view 1 ((byB A.per (64 * A.n)).map eB)), .p (.view 1 ((dirL A A.n).map eNd)), .sl b 1 0 i])]) (fun i => [.arr 1 ((hsL A i).map eHs)]) (fun i => i ≤ (dirL A A.n).length) (fun i => (dirL A A.n).length - i) (0) ?h0_1 ?hs0_1 ?I_1 ?hI_1 ?round_1
 case hI_1 => intro x; (simp -dsimp -implicitDefEqProofs (maxSteps := 1000000) (disch := first | omega | (simp only [LN]; omega)) only [go_sem]) <;> exact rfl
 case hs0_1 => refine wk_auto ?_; (simp -dsimp -implicitDefEqProofs (maxSteps := 1000000) (disch := first | omega | (simp only [LN, byB_len, byB_take, Nat.min_self, show hsL A 0 = [] from rfl]; omega)) only [go_sem, byB_len, byB_take, Nat.min_self, show hsL A 0 = [] from rfl]) <;> (try omega)
 case h0_1 => exact Nat.zero_le _
 case round_1 =>
  intro i hi
  have hsl := hsL_len A hi
  have w3 : IntKind.i64.wrap ((i : Int) + 1) = ((i + 1 : Nat) : Int) := by rw [IntKind.wrap_i64]; push_cast; omega
  by_cases hi2 : i < (dirL A A.n).length
  ·have hs := hsL_s A hi2
   have hm : (dirL A A.n).getD i default ∈ dirL A A.n := by rw [List.getD_eq_getElem?_getD, List.getElem?_eq_getElem hi2]; exact List.getElem_mem hi2
   generalize hxx : (dirL A A.n).getD i default = x at *
   have kh := dHist6 A J N h hN x (dirL_lt A hm)
   repeat' (first
    | (with_reducible first | apply zY | apply zT | apply zM | apply zN | apply zO | refine chk_ok (by kernel_rfl) ?_)
    | ((with_reducible first | apply zP | apply zQ | apply zR | apply zL) <;> intro h <;> try (exfalso; first | omega | exact h rfl | (revert h; decide) | (cases h; done)))
    | ((with_reducible show False); omega)
    | ((first | (with_reducible first | apply zW | apply zV | apply zU | apply zS | apply zX | show VX _ _ _ _ _ _ _ | show vstep _ _ _ _ _ | show vskip _ _ _ | show withV _ _) | ((with_reducible show endA _ _ _ _ _ _ _); simp -implicitDefEqProofs only [endA]) | (with_reducible first | refine zB default (by first | omega | (simp only [LN, hxx]; omega)) (by first | omega | (simp only [LN, hxx]; omega)) ?_ | refine zC default (by first | omega | (simp only [LN, hxx]; omega)) ?_ | refine And.intro (by first | decide | omega | assumption | (simp only [LN, hxx]; omega)) ?_) | (with_reducible first | apply zG | apply zH | apply zI | apply hidePI_own) | ((with_reducible apply zJ); (first | exact kh | fail)) | ((with_reducible show pickE _ _ _); first | refine zA _ ⟨by omega, by rfl⟩ ?_ | refine zA _ (by rfl) ?_) | fail); try simp -dsimp -implicitDefEqProofs (maxSteps := 1000000) (disch := first | omega | (simp only [LN, hxx]; omega)) only [go_sem, hxx])
    | fail)
   all_goals first | omega | ((refine zZ (i + 1) ?_ ?_ ?_; (omega); (show _ < _; omega); (simp -dsimp -implicitDefEqProofs (maxSteps := 1000000) (disch := first | omega | (simp only [LN, w3, hs, List.map_append, List.map_cons, List.map_nil]; omega)) only [go_sem, w3, hs, List.map_append, List.map_cons, List.map_nil]; try trivial)))
  ·obtain rfl : i = (dirL A A.n).length := by omega
   clear w3
   repeat' (first
    | (with_reducible first | apply zY | apply zT | apply zM | apply zN | apply zO | refine chk_ok (by kernel_rfl) ?_)
    | ((with_reducible first | apply zP | apply zQ | apply zR | apply zL) <;> intro h <;> try (exfalso; first | omega | exact h rfl | (revert h; decide) | (cases h; done)))
    | ((with_reducible show False); omega)
    | ((first | (with_reducible first | apply zW | apply zV | apply zU | apply zS | apply zX | show VX _ _ _ _ _ _ _ | show vstep _ _ _ _ _ | show vskip _ _ _ | show withV _ _) | ((with_reducible show endA _ _ _ _ _ _ _); simp -implicitDefEqProofs only [endA]) | (with_reducible first | refine zB default (by first | omega | (simp only [LN, byB_len, byB_take, Nat.min_self, hsl]; omega)) (by first | omega | (simp only [LN, byB_len, byB_take, Nat.min_self, hsl]; omega)) ?_ | refine zC default (by first | omega | (simp only [LN, byB_len, byB_take, Nat.min_self, hsl]; omega)) ?_ | refine And.intro (by first | decide | omega | assumption | (simp only [LN, byB_len, byB_take, Nat.min_self, hsl]; omega)) ?_) | ((with_reducible show pickE _ _ _); first | refine zA _ ⟨by omega, by rfl⟩ ?_ | refine zA _ (by rfl) ?_) | fail); try simp -dsimp -implicitDefEqProofs (maxSteps := 1000000) (disch := first | omega | (simp only [LN, byB_len, byB_take, Nat.min_self, hsl]; omega)) only [go_sem, byB_len, byB_take, Nat.min_self, hsl])
    | fail)
   all_goals first | omega | (simp; done)
end Go.Proofs.YtegekpjkbedngaaGreat
namespace Go.Proofs.YtegekpjkbedngaaGreat
set_option maxHeartbeats 4000000
set_option maxRecDepth 100000
open Go Go.Ab
attribute [local irreducible] callK callF loopQ vstep vskip pickE hideP
attribute [local go_sem] eU eC deO peO cuO liO thO hiO noO eI
theorem kDevice (p : List UInt8) (n : Nat) (hp : p.length = 64 * n) (hn : 0 < n ∧ n ≤ 8) : ACalls Tryz.prog 20 [.p (eI p)] [] (.tup [.loc 0 0, .p (.v (.int .i64 0))]) [deO (Dv.fresh n (fW p (8 * n) p.length)) 1 2 3 4, peO (Dv.fresh n (fW p (8 * n) p.length)), cuO (Dv.fresh n (fW p (8 * n) p.length)), liO (Dv.fresh n (fW p (8 * n) p.length)) J0 12, thO (Dv.fresh n (fW p (8 * n) p.length)) 0 0 20, thO (Dv.fresh n (fW p (8 * n) p.length)) 1 0 20, thO (Dv.fresh n (fW p (8 * n) p.length)) 2 0 20, thO (Dv.fresh n (fW p (8 * n) p.length)) 3 0 20, thO (Dv.fresh n (fW p (8 * n) p.length)) 4 0 20, thO (Dv.fresh n (fW p (8 * n) p.length)) 5 0 20, thO (Dv.fresh n (fW p (8 * n) p.length)) 6 0 20, thO (Dv.fresh n (fW p (8 * n) p.length)) 7 0 20, hiO (Dv.fresh n (fW p (8 * n) p.length)) J0 0, hiO (Dv.fresh n (fW p (8 * n) p.length)) J0 1, hiO (Dv.fresh n (fW p (8 * n) p.length)) J0 2, hiO (Dv.fresh n (fW p (8 * n) p.length)) J0 3, hiO (Dv.fresh n (fW p (8 * n) p.length)) J0 4, hiO (Dv.fresh n (fW p (8 * n) p.length)) J0 5, hiO (Dv.fresh n (fW p (8 * n) p.length)) J0 6, hiO (Dv.fresh n (fW p (8 * n) p.length)) J0 7, noO (Dv.fresh n (fW p (8 * n) p.length)) 0, noO (Dv.fresh n (fW p (8 * n) p.length)) 1, noO (Dv.fresh n (fW p (8 * n) p.length)) 2, noO (Dv.fresh n (fW p (8 * n) p.length)) 3, noO (Dv.fresh n (fW p (8 * n) p.length)) 4, noO (Dv.fresh n (fW p (8 * n) p.length)) 5, noO (Dv.fresh n (fW p (8 * n) p.length)) 6, noO (Dv.fresh n (fW p (8 * n) p.length)) 7] := by
 refine yA (E := E) (fn := Tryz.f20) 12 [.tmp 2, .tmp 3] rfl rfl rfl rfl (by decide) rfl rfl ?_
 have k1 := c15 p (by omega)
 have k2 := c17 p (by omega)
 have k3 := dFrom6 p n hp hn
 have e1 : ((p.length / 64 : Nat) : Int) = n := by omega
 have e2 : ¬ ((n : Int) = 0) := by omega
 rw [e1] at k1
 repeat' (first
  | (with_reducible first | apply zY | apply zT | apply zM | apply zN | apply zO | refine chk_ok (by kernel_rfl) ?_)
  | ((with_reducible first | apply zP | apply zQ | apply zR | apply zL) <;> intro h <;> try (exfalso; first | omega | exact h rfl | (revert h; decide) | (cases h; done)))
  | ((with_reducible show False); omega)
  | ((first | (with_reducible first | apply zW | apply zV | apply zU | apply zS | apply zX | show VX _ _ _ _ _ _ _ | show vstep _ _ _ _ _ | show vskip _ _ _ | show withV _ _) | ((with_reducible show endA _ _ _ _ _ _ _); simp -implicitDefEqProofs only [endA]) | (with_reducible first | refine zB default (by first | omega | (simp only [LN, e2]; omega)) (by first | omega | (simp only [LN, e2]; omega)) ?_ | refine zC default (by first | omega | (simp only [LN, e2]; omega)) ?_ | refine And.intro (by first | decide | omega | assumption | (simp only [LN, e2]; omega)) ?_) | ((with_reducible apply zD); (first | exact k1 | exact k2 | fail)) | ((with_reducible apply zE); (first | exact k1 | exact k2 | fail); rfl) | ((with_reducible apply zF); (first | exact k1 | exact k2 | fail)) | (with_reducible first | apply zG | apply zH | apply zI | apply hidePI_own) | ((with_reducible apply zJ); (first | exact k3 | fail)) | ((with_reducible show pickE _ _ _); first | refine zA _ ⟨by omega, by rfl⟩ ?_ | refine zA _ (by rfl) ?_) | fail); try simp -dsimp -implicitDefEqProofs (maxSteps := 1000000) (disch := first | omega | (simp only [LN, e2]; omega)) only [go_sem, e2])
  | fail)
 all_goals first | omega
end Go.Proofs.YtegekpjkbedngaaGreat
namespace Go.Proofs.YtegekpjkbedngaaGreat
open Go Go.Ab
attribute [local irreducible] callK callF loopQ vstep vskip pickE hideP
set_option maxRecDepth 100000
def M64 (x : Int) : Int := x % 18446744073709551616
theorem putM_out8 (l : List UInt8) (o : Nat) (v : Int) (j : Nat) : ∀ n, j < o ∨ o + n ≤ j → (putM l o v n).getD j 0 = l.getD j 0
 | 0, _ => rfl
 | n + 1, h => by
  rw [putM, List.getD_eq_getElem?_getD, List.getElem?_set_ne (by omega), ← List.getD_eq_getElem?_getD]
  exact putM_out8 l o v j n (by omega)
theorem putM_in8 (l : List UInt8) (o : Nat) (v : Int) : ∀ n k, k < n → o + n ≤ l.length → (putM l o v n).getD (o + k) 0 = UInt8.ofNat (v / 256 ^ k % 256).toNat
 | n + 1, k, hk, h => by
  rw [putM, List.getD_eq_getElem?_getD, List.getElem?_set]
  by_cases e : o + n = o + k
  ·rw [if_pos e, if_pos (by rw [putM_len]; omega), show k = n by omega]; rfl
  ·rw [if_neg e, ← List.getD_eq_getElem?_getD, putM_in8 l o v n k (by omega) (by omega)]
theorem byte_val (v : Int) (k : Nat) : (((UInt8.ofNat (v / 256 ^ k % 256).toNat).toNat : Nat) : Int) = v / 256 ^ k % 256 := by
 have h0 : 0 ≤ v / 256 ^ k % 256 := Int.emod_nonneg _ (by decide)
 have h1 : v / 256 ^ k % 256 < 256 := Int.emod_lt_of_pos _ (by decide)
 generalize v / 256 ^ k % 256 = x at *
 simp; omega
theorem wrd_of (l : List UInt8) (o : Nat) (x : Int) (h : ∀ k, k < 8 → ((bytU l o k : Nat) : Int) = x / 256 ^ k % 256) : ((wrdU l o 8 : Nat) : Int) = M64 x := by
 have b0 := h 0 (by decide)
 have b1 := h 1 (by decide)
 have b2 := h 2 (by decide)
 have b3 := h 3 (by decide)
 have b4 := h 4 (by decide)
 have b5 := h 5 (by decide)
 have b6 := h 6 (by decide)
 have b7 := h 7 (by decide)
 simp only [wrdU, M64]
 simp only [Int.reducePow] at b0 b1 b2 b3 b4 b5 b6 b7
 omega
theorem wrdU_ext {l m : List UInt8} {o : Nat} : ∀ n, (∀ k, k < n → l.getD (o + k) 0 = m.getD (o + k) 0) → wrdU l o n = wrdU m o n
 | 0, _ => rfl
 | n + 1, h => by
  rw [wrdU, wrdU, wrdU_ext n (fun k hk => h k (by omega)), bytU, bytU, h n (by omega)]
structure Rel (p : List UInt8) (ws : List Int) : Prop where
 lp : p.length = 512
 lw : ws.length = 64
 at_ : ∀ j, j < 64 → (fW p 64 512).getD j 0 = M64 (ws.getD j 0)
theorem fW_at (p : List UInt8) {j : Nat} (hj : j < 64) : (fW p 64 512).getD j 0 = ((wrdU p (8 * j) 8 : Nat) : Int) := by
 rw [fW_get p 64 512 j hj, show min 8 (512 - 8 * j) = 8 by omega]
theorem rel_by (ws : List Int) (h : ws.length = 64) : Rel (byB ws 512) ws := by
 refine ⟨byB_len _ _, h, fun j hj => ?_⟩
 rw [fW_at _ hj]
 refine wrd_of _ _ _ fun k hk => ?_
 unfold bytU byB
 rw [List.getD_eq_getElem?_getD, List.getElem?_map, List.getElem?_range (by omega)]
 show (((UInt8.ofNat (byW ws (8 * j + k)).toNat).toNat : Nat) : Int) = _
 have e : byW ws (8 * j + k) = ws.getD j 0 / 256 ^ k % 256 := by
  unfold byW
  rw [IntKind.wrap_u8, show (8 * j + k) / 8 = j by omega, show (8 * j + k) % 8 = k by omega, Nat.mul_comm, pow8V]
 rw [e]; exact byte_val _ _
theorem rel_put {p : List UInt8} {ws : List Int} (h : Rel p ws) {s : Int × Int} (hs : WOff s.1) : Rel (wB p s) (ws.set (s.1 / 8).toNat s.2) := by
 obtain ⟨h1, h2, h3⟩ := hs
 have hlp := h.lp
 refine ⟨by rw [wB, putM_len]; exact hlp, by rw [List.length_set]; exact h.lw, fun j hj => ?_⟩
 rw [fW_at _ hj, List.getD_eq_getElem?_getD, List.getElem?_set]
 by_cases e : (s.1 / 8).toNat = j
 ·rw [if_pos e, if_pos (by rw [h.lw]; omega)]
  refine wrd_of _ _ _ fun k hk => ?_
  have e2 : 8 * j = s.1.toNat := by omega
  unfold bytU wB
  rw [e2, putM_in8 _ _ _ 8 k hk (by omega)]
  exact byte_val _ _
 ·rw [if_neg e, ← List.getD_eq_getElem?_getD, ← h.at_ j hj, fW_at _ hj]
  congr 1
  refine wrdU_ext 8 fun k hk => ?_
  exact putM_out8 p _ _ _ 8 (by omega)
theorem rel_puts : ∀ (l : List (Int × Int)) {p : List UInt8} {ws : List Int}, Rel p ws → (∀ s, s ∈ l → WOff s.1) → Rel (wBs p l) (appL ws l)
 | [], _, _, h, _ => h
 | s :: l, _, _, h, hs => rel_puts l (rel_put h (hs s List.mem_cons_self)) fun x hx => hs x (List.mem_cons_of_mem _ hx)
def imW (ws : List Int) (h : Hs) (ds : List Nat) : Nat → List Int
 | 0 => ws
 | a + 1 => appL (imW ws h ds a) ((h.getD a default).take (ds.getD a default))
theorem rel_im {p : List UInt8} {ws : List Int} (h : Rel p ws) (H : Hs) (ds : List Nat) (hH : ∀ i, i < H.length → ∀ s, s ∈ H.getD i default → WOff s.1) : ∀ a, a ≤ H.length → Rel (imK p H ds a) (imW ws H ds a)
 | 0, _ => h
 | a + 1, ha => rel_puts _ (rel_im h H ds hH a (by omega)) fun s hs => hH a (by omega) s (List.mem_of_mem_take hs)
end Go.Proofs.YtegekpjkbedngaaGreat
namespace Go.Proofs.YtegekpjkbedngaaGreat
open Go Go.Ab
attribute [local irreducible] callK callF loopQ vstep vskip pickE hideP
set_option maxRecDepth 100000
def fD : List Nat → List Nat → Nat → Nat
 | d :: ds, k :: ks, r => if d = r then k else fD ds ks r
 | _, _, _ => 0
theorem fD_out : ∀ (d ks : List Nat) (r : Nat), r ∉ d → fD d ks r = 0
 | [], _, _, _ => rfl
 | d :: ds, [], _, _ => rfl
 | d :: ds, k :: ks, r, h => by
  rw [fD, if_neg (fun e : d = r => h (e ▸ List.mem_cons_self))]
  exact fD_out ds ks r fun hm => h (List.mem_cons_of_mem _ hm)
theorem fD_app : ∀ (d ks : List Nat) (x k r : Nat), d.length = ks.length → fD (d ++ [x]) (ks ++ [k]) r = if r ∈ d then fD d ks r else if x = r then k else 0
 | [], [], x, k, r, _ => by simp [fD]
 | [], _ :: _, _, _, _, h => by simp at h
 | _ :: _, [], _, _, _, h => by simp at h
 | d :: ds, k0 :: ks, x, k, r, h => by
  have ih := fD_app ds ks x k r (by simpa using h)
  show (if d = r then k0 else fD (ds ++ [x]) (ks ++ [k]) r) = if r ∈ d :: ds then (if d = r then k0 else fD ds ks r) else _
  by_cases e : d = r
  ·rw [if_pos e, if_pos (show r ∈ d :: ds from e ▸ List.mem_cons_self), if_pos e]
  ·rw [if_neg e, ih]
   by_cases e2 : r ∈ ds
   ·rw [if_pos e2, if_pos (show r ∈ d :: ds from List.mem_cons_of_mem _ e2), if_neg e]
   ·rw [if_neg e2, if_neg (show ¬ r ∈ d :: ds from fun hm => (List.mem_cons.1 hm).elim (fun h => e h.symm) e2)]
theorem dirL_nd (A : Dv) (n : Nat) : (dirL A n).Nodup := List.nodup_range.sublist List.filter_sublist
theorem hsL_all (A : Dv) : hsL A (dirL A A.n).length = (dirL A A.n).map A.hist := by unfold hsL; rw [List.take_length]
theorem hsL_get (A : Dv) {i : Nat} (hi : i < (dirL A A.n).length) : (hsL A (dirL A A.n).length).getD i default = A.hist ((dirL A A.n).getD i default) := by
 rw [hsL_all, List.getD_eq_getElem?_getD, List.getElem?_map, List.getD_eq_getElem?_getD, List.getElem?_eq_getElem hi]; rfl
theorem imW_at {A : Dv} (hw : WF A) {ks : List Nat} (hk : DgOk (hsL A (dirL A A.n).length) ks) (j : Nat) (hj : j < 64) : ∀ a, a ≤ (dirL A A.n).length →
  (imW A.per (hsL A (dirL A A.n).length) ks a).getD j 0 = (appL A.per ((A.hist (j / 8)).take (fD ((dirL A A.n).take a) (ks.take a) (j / 8)))).getD j 0 ∧ fD ((dirL A A.n).take a) (ks.take a) (j / 8) ≤ (A.hist (j / 8)).length ∧ (imW A.per (hsL A (dirL A A.n).length) ks a).length = A.per.length
 | 0, _ => by simp [imW, fD, appL]
 | a + 1, ha => by
  have hlen : (hsL A (dirL A A.n).length).length = (dirL A A.n).length := hsL_len A (Nat.le_refl _)
  obtain ⟨ih, ihb, ihl⟩ := imW_at hw hk j hj a (by omega)
  have hks : ks.length = (dirL A A.n).length := hk.1.trans hlen
  have hka := hk.2 a (by rw [hlen]; omega)
  rw [hsL_get A (by omega)] at hka
  have ht1 := yE default (l := dirL A A.n) (i := a) (by omega)
  have ht2 := yE default (l := ks) (i := a) (by omega)
  have hx : (dirL A A.n).getD a default ∈ dirL A A.n := by rw [List.getD_eq_getElem?_getD, List.getElem?_eq_getElem (by omega)]; exact List.getElem_mem _
  have hx8 : (dirL A A.n).getD a default < 8 := by have := dirL_lt A hx; have := hw.n6; omega
  have hnd := dirL_nd A A.n
  rw [← List.take_append_drop (a + 1) (dirL A A.n), ht1] at hnd
  have hnin : (dirL A A.n).getD a default ∉ (dirL A A.n).take a := fun hm => (List.nodup_append.1 (List.nodup_append.1 hnd).1).2.2 _ hm _ (by simp) rfl
  have hl : ((dirL A A.n).take a).length = (ks.take a).length := by rw [List.length_take, List.length_take, hks]
  show (appL _ (((hsL A (dirL A A.n).length).getD a default).take (ks.getD a default))).getD j 0 = _ ∧ _ ∧ (appL _ _).length = _
  rw [hsL_get A (by omega), ht1, ht2, fD_app _ _ _ _ _ hl]
  generalize (dirL A A.n).getD a default = x at *
  generalize ks.getD a default = k at *
  have hin : ∀ s, s ∈ A.hist x → s.1 / 64 = x := fun s hs => ((hw.hist x hx8 s hs).1.1).symm
  refine ⟨?_, ?_, by rw [appL_len]; exact ihl⟩
  ·by_cases e : x = j / 8
   ·subst e
    rw [if_neg hnin, if_pos rfl]
    rw [fD_out _ _ _ hnin, List.take_zero] at ih
    exact appL_loc _ _ _ _ ihl ih
   ·rw [appL_off _ j (fun s hs => ?_)]
    ·rw [ih]
     by_cases e2 : j / 8 ∈ (dirL A A.n).take a
     ·rw [if_pos e2]
     ·rw [if_neg e2, if_neg e, fD_out _ _ _ e2]
    ·have h1 := hin s (List.mem_of_mem_take hs)
     have h2 := (hw.hist x hx8 s (List.mem_of_mem_take hs)).1.2.2
     omega
  ·split
   ·exact ihb
   ·split
    ·rename_i e; subst e; exact hka
    ·exact Nat.zero_le _
theorem fD_le {A : Dv} {ks : List Nat} (hk : DgOk (hsL A (dirL A A.n).length) ks) (r : Nat) : ∀ a, a ≤ (dirL A A.n).length → fD ((dirL A A.n).take a) (ks.take a) r ≤ (A.hist r).length
 | 0, _ => by simp [fD]
 | a + 1, ha => by
  have hlen : (hsL A (dirL A A.n).length).length = (dirL A A.n).length := hsL_len A (Nat.le_refl _)
  have ih := fD_le hk r a (by omega)
  have hks : ks.length = (dirL A A.n).length := hk.1.trans hlen
  have hka := hk.2 a (by rw [hlen]; omega)
  rw [hsL_get A (by omega)] at hka
  rw [yE default (l := dirL A A.n) (i := a) (by omega), yE default (l := ks) (i := a) (by omega), fD_app _ _ _ _ _ (by rw [List.length_take, List.length_take, hks])]
  split
  ·exact ih
  ·split
   ·rename_i e; rw [← e]; exact hka
   ·exact Nat.zero_le _
theorem NW.congr {ws ws' : List Int} {a : Nat} {sl : List Nat} {c : Nat} (h : NW ws a sl c) (he : ∀ i, i < 28 → vw ws' a i = vw ws a i) : NW ws' a sl c ∧ entN (vw ws' a) sl = entN (vw ws a) sl := by
 have hs := h.so.2.1
 refine ⟨⟨by rw [he 0 (by omega)]; exact h.w0, by rw [he 1 (by omega)]; exact h.w1, by rw [he 2 (by omega)]; exact h.w2, by rw [he 3 (by omega)]; exact h.w3, h.so, ?_, fun i hi => by rw [he i hi]; exact h.hv i hi⟩, entN_congr fun s hx => ⟨he _ (by have := hs s hx; omega), he _ (by have := hs s hx; omega)⟩⟩
 refine h.srt.imp_of_mem fun {x y} hx hy hxy => ?_
 rw [he _ (by have := hs x hx; omega), he _ (by have := hs y hy; omega)]; exact hxy
def crB (A : Dv) (ks : List Nat) : List UInt8 := imK (byB A.per 512) (hsL A (dirL A A.n).length) ks (hsL A (dirL A A.n).length).length
theorem crB_len (A : Dv) (ks : List Nat) : (crB A ks).length = 512 := by rw [crB, imK_len, byB_len]
theorem crash_rds {A : Dv} {a : Nat} {last : Prop} {now next : List En} (hw : WF A) (hg : Good A a last now next) (ha : a < 30) {ks : List Nat} (hk : DgOk (hsL A (dirL A A.n).length) ks) :
  ∃ E, Rds (fW (crB A ks) 64 512) a E ∧ (E = next ∨ (¬ last ∧ E = now)) := by
 have hlen : (hsL A (dirL A A.n).length).length = (dirL A A.n).length := hsL_len A (Nat.le_refl _)
 have hn8 := hg.cl.n8
 obtain ⟨E, ⟨hl, sl, c, h1, h2⟩, h3⟩ := hg.cra (fun r => fD (dirL A A.n) ks r) (fun r _ => by
  have := fD_le hk r _ (Nat.le_refl _)
  rw [List.take_length, List.take_of_length_le (Nat.le_of_eq (hk.1.trans hlen))] at this
  exact this)
 have hrel : Rel (crB A ks) (imW A.per (hsL A (dirL A A.n).length) ks (hsL A (dirL A A.n).length).length) := by
  refine rel_im (rel_by _ (by rw [hw.per, hn8])) _ _ (fun i hi s hs => ?_) _ (Nat.le_refl _)
  rw [hlen] at hi
  rw [hsL_get A hi] at hs
  have hx : (dirL A A.n).getD i default ∈ dirL A A.n := by rw [List.getD_eq_getElem?_getD, List.getElem?_eq_getElem hi]; exact List.getElem_mem hi
  have hx8 : (dirL A A.n).getD i default < 8 := Nat.lt_of_lt_of_eq (dirL_lt A hx) hn8
  obtain ⟨⟨g1, g2, g3⟩, _⟩ := hw.hist _ hx8 s hs
  exact ⟨g3, g2, by omega⟩
 obtain ⟨k1, k2⟩ := h1.congr (ws' := fW (crB A ks) 64 512) (fun i hi => by
  have hj : a + 1 + i < 64 := by omega
  have e := (imW_at hw hk (a + 1 + i) hj _ (Nat.le_refl _)).1
  rw [List.take_length, List.take_of_length_le (Nat.le_of_eq (hk.1.trans hlen))] at e
  show (fW (crB A ks) 64 512).getD (a + 1 + i) 0 = _
  rw [hrel.at_ _ hj, hlen, e, ← contS_get A (fun r => fD (dirL A A.n) ks r) _ (by rw [hn8]; exact hj)]
  have hv := h1.hv i hi
  show M64 (vw (contS A _) a i) = _
  unfold M64
  omega)
 exact ⟨E, ⟨fW_len _ _ _, sl, c, k1, k2.trans h2⟩, h3⟩
end Go.Proofs.YtegekpjkbedngaaGreat
