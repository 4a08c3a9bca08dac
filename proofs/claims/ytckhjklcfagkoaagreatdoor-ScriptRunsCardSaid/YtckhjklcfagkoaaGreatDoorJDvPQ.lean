/- Contracts of functions of this program, and the plain facts that they rest on. No conditions. -/
import Derived.Test.YtckhjklcfagkoaaGreatDoorJRvHQ
import Derived.Test.YtckhjklcfagkoaaGreatDoorJDvF0Q
set_option linter.unusedSimpArgs false
set_option linter.unusedVariables false
namespace Go.Proofs.YtckhjklcfagkoaaGreatDoor
set_option maxHeartbeats 4000000
set_option maxRecDepth 100000
open Go Go.Ab
attribute [local irreducible] callK callF loopQ vstep vskip pickE hideP
attribute [local go_sem] eU eC deO peO cuO liO thO hiO noO
theorem dFrom6s (p : List UInt8) (n : Nat) (hp : p.length = 64 * n) (hn : 0 < n ∧ n ≤ 6) : ACalls Tryz.prog 82 [.sl 0 1 0 p.length] [.arr 1 (p.map eC)] (.tup [.loc 1 0, .p (.v (.int .i64 0))]) [.arr 1 (p.map eC), deO (Dv.fresh n (fW p (8 * n) p.length)) 2 3 4 5, peO (Dv.fresh n (fW p (8 * n) p.length)), cuO (Dv.fresh n (fW p (8 * n) p.length)), liO (Dv.fresh n (fW p (8 * n) p.length)) J0 13, thO (Dv.fresh n (fW p (8 * n) p.length)) 0 1 19, thO (Dv.fresh n (fW p (8 * n) p.length)) 1 1 19, thO (Dv.fresh n (fW p (8 * n) p.length)) 2 1 19, thO (Dv.fresh n (fW p (8 * n) p.length)) 3 1 19, thO (Dv.fresh n (fW p (8 * n) p.length)) 4 1 19, thO (Dv.fresh n (fW p (8 * n) p.length)) 5 1 19, thO (Dv.fresh n (fW p (8 * n) p.length)) 6 1 19, thO (Dv.fresh n (fW p (8 * n) p.length)) 7 1 19, hiO (Dv.fresh n (fW p (8 * n) p.length)) J0 0, hiO (Dv.fresh n (fW p (8 * n) p.length)) J0 1, hiO (Dv.fresh n (fW p (8 * n) p.length)) J0 2, hiO (Dv.fresh n (fW p (8 * n) p.length)) J0 3, hiO (Dv.fresh n (fW p (8 * n) p.length)) J0 4, hiO (Dv.fresh n (fW p (8 * n) p.length)) J0 5, noO (Dv.fresh n (fW p (8 * n) p.length)) 0, noO (Dv.fresh n (fW p (8 * n) p.length)) 1, noO (Dv.fresh n (fW p (8 * n) p.length)) 2, noO (Dv.fresh n (fW p (8 * n) p.length)) 3, noO (Dv.fresh n (fW p (8 * n) p.length)) 4, noO (Dv.fresh n (fW p (8 * n) p.length)) 5, noO (Dv.fresh n (fW p (8 * n) p.length)) 6, noO (Dv.fresh n (fW p (8 * n) p.length)) 7] := by
 refine yA (E := E) (fn := Tryz.f82) 48 [.tmp 2, .tmp 3] rfl rfl rfl rfl (by decide) rfl rfl ?_
 have e1 : IntKind.i64.wrap ((p.length : Int).tmod 64) = 0 := by rw [show ((p.length : Int).tmod 64) = ((p.length % 64 : Nat) : Int) from rfl, IntKind.wrap_i64]; omega
 have e2 : IntKind.i64.wrap ((p.length : Int).tdiv 64) = (n : Int) := by rw [show ((p.length : Int).tdiv 64) = ((p.length / 64 : Nat) : Int) from rfl, IntKind.wrap_i64]; omega
 have e3 : IntKind.i64.wrap ((p.length : Int).tdiv 8) = ((8 * n : Nat) : Int) := by rw [show ((p.length : Int).tdiv 8) = ((p.length / 8 : Nat) : Int) from rfl, IntKind.wrap_i64]; omega
 have e4 : ¬ ((p.length : Int) = 0) := by omega
 have e6 : ((p.length : Int).tmod 64) = 0 := by rw [show ((p.length : Int).tmod 64) = ((p.length % 64 : Nat) : Int) from rfl]; omega
 have e7 : ((p.length : Int).tdiv 64) = (n : Int) := by rw [show ((p.length : Int).tdiv 64) = ((p.length / 64 : Nat) : Int) from rfl]; omega
 have e8 : ((p.length : Int).tdiv 8) = ((8 * n : Nat) : Int) := by rw [show ((p.length : Int).tdiv 8) = ((p.length / 8 : Nat) : Int) from rfl]; omega
 have e5 : ¬ (4096 < (n : Int)) := by omega
 repeat' (first
  | (with_reducible first | apply zY | apply zT | apply zM | apply zN | apply zO | refine chk_ok (by kernel_rfl) ?_)
  | ((with_reducible first | apply zP | apply zQ | apply zR | apply zL) <;> intro h <;> try (exfalso; first | omega | exact h rfl | (revert h; decide) | (cases h; done)))
  | ((with_reducible show False); omega)
  | ((first | (with_reducible first | apply zW | apply zV | apply zU | apply zS | apply zX | show VX _ _ _ _ _ _ _ | show vstep _ _ _ _ _ | show vskip _ _ _ | show withV _ _) | ((with_reducible show endA _ _ _ _ _ _ _); simp -implicitDefEqProofs only [endA]) | (with_reducible first | refine zB default (by first | omega | (simp only [LN, e1, e2, e3, e4, e5, e6, e7, e8]; omega)) (by first | omega | (simp only [LN, e1, e2, e3, e4, e5, e6, e7, e8]; omega)) ?_ | refine zC default (by first | omega | (simp only [LN, e1, e2, e3, e4, e5, e6, e7, e8]; omega)) ?_ | refine And.intro (by first | decide | omega | assumption | (simp only [LN, e1, e2, e3, e4, e5, e6, e7, e8]; omega)) ?_) | ((with_reducible show pickE _ _ _); first | refine zA _ ⟨by omega, by rfl⟩ ?_ | refine zA _ (by rfl) ?_) | fail); try simp -dsimp -implicitDefEqProofs (maxSteps := 1000000) (disch := first | omega | (simp only [LN, e1, e2, e3, e4, e5, e6, e7, e8]; omega)) only [go_sem, e1, e2, e3, e4, e5, e6, e7, e8])
  | fail)
 all_goals try (exfalso; omega)
 refine r_loopA (α := Nat) [4, 24, 25] (fun i b => [(26, aI i)]) (fun i b => [(4, .arr 1 ((fW p (8 * n) i).map eU))]) (fun i => []) (fun i => i ≤ p.length) (fun i => p.length - i) (0) ?h0_1 ?hs0_1 ?I_1 ?hI_1 ?round_1
 case hI_1 => intro x; (simp -dsimp -implicitDefEqProofs (maxSteps := 1000000) (disch := first | omega | (simp only [LN]; omega)) only [go_sem]) <;> exact rfl
 case hs0_1 => refine wk_auto ?_; (simp -dsimp -implicitDefEqProofs (maxSteps := 1000000) (disch := first | omega | (simp only [LN, fW_0 p (8 * n)]; omega)) only [go_sem, fW_0 p (8 * n)]) <;> (try omega)
 case h0_1 => exact Nat.zero_le _
 case round_1 =>
  intro i h1
  by_cases hi : i < p.length
  ·have e1 : IntKind.i64.wrap ((i : Int).tdiv 8) = ((i / 8 : Nat) : Int) := by rw [show ((i : Int).tdiv 8) = ((i / 8 : Nat) : Int) from rfl, IntKind.wrap_i64]; omega
   have e2 : (i : Int).tmod 8 = ((i % 8 : Nat) : Int) := rfl
   have e3 : IntKind.i64.wrap (((i % 8 : Nat) : Int) * 8) = ((i % 8 * 8 : Nat) : Int) := by rw [IntKind.wrap_i64]; omega
   have e4 : ((i : Int) / 8).toNat = i / 8 := by omega
   have hl := fW_len p (8 * n) i
   have e5 : (IntKind.u64.wrap ((i % 8 * 8 : Nat) : Int)).toNat = i % 8 * 8 := by rw [IntKind.wrap_u64]; omega
   have e6 : min (i % 8 * 8) 64 = i % 8 * 8 := by omega
   have hq := wrdU_lt p (8 * (i / 8)) (i % 8 + 1)
   have h4 : (256 : Nat) ^ (i % 8 + 1) ≤ 256 ^ 8 := Nat.pow_le_pow_right (by decide) (by omega)
   have h5 : (256 : Nat) ^ 8 = 18446744073709551616 := by decide
   have e7 := wrd_core (wrdU p (8 * (i / 8)) (i % 8)) (bytU p (8 * (i / 8)) (i % 8)) (256 ^ (i % 8)) (i % 8 * 8) (by rw [Nat.mul_comm]; exact pow8U _) (bytU_lt _ _ _) (wrdU_lt _ _ _) (Nat.lt_of_lt_of_le hq (h5 ▸ h4))
   have e8 : (fW p (8 * n) i).getD (i / 8) default = ((wrdU p (8 * (i / 8)) (i % 8) : Nat) : Int) := by
    rw [fW_get _ _ _ _ (by omega), show min 8 (i - 8 * (i / 8)) = i % 8 by omega]
   have e9 : (p.getD i default).toNat = bytU p (8 * (i / 8)) (i % 8) := by unfold bytU; rw [show 8 * (i / 8) + i % 8 = i by omega]; rfl
   have hs := fW_s p (8 * n) i (by omega) _ e7
   repeat' (first
    | (with_reducible first | apply zY | apply zT | apply zM | apply zN | apply zO | refine chk_ok (by kernel_rfl) ?_)
    | ((with_reducible first | apply zP | apply zQ | apply zR | apply zL) <;> intro h <;> try (exfalso; first | omega | exact h rfl | (revert h; decide) | (cases h; done)))
    | ((with_reducible show False); omega)
    | ((first | (with_reducible first | apply zW | apply zV | apply zU | apply zS | apply zX | show VX _ _ _ _ _ _ _ | show vstep _ _ _ _ _ | show vskip _ _ _ | show withV _ _) | ((with_reducible show endA _ _ _ _ _ _ _); simp -implicitDefEqProofs only [endA]) | (with_reducible first | refine zB default (by first | omega | (simp only [LN, e1, e2, e3, e4, hl, e5, e6, e8, e9]; omega)) (by first | omega | (simp only [LN, e1, e2, e3, e4, hl, e5, e6, e8, e9]; omega)) ?_ | refine zC default (by first | omega | (simp only [LN, e1, e2, e3, e4, hl, e5, e6, e8, e9]; omega)) ?_ | refine And.intro (by first | decide | omega | assumption | (simp only [LN, e1, e2, e3, e4, hl, e5, e6, e8, e9]; omega)) ?_) | ((with_reducible show pickE _ _ _); first | refine zA _ ⟨by omega, by rfl⟩ ?_ | refine zA _ (by rfl) ?_) | fail); try simp -dsimp -implicitDefEqProofs (maxSteps := 1000000) (disch := first | omega | (simp only [LN, e1, e2, e3, e4, hl, e5, e6, e8, e9]; omega)) only [go_sem, e1, e2, e3, e4, hl, e5, e6, e8, e9])
    | fail)
   all_goals first | omega | ((refine zZ (i + 1) ?_ ?_ ?_; (omega); (show _ < _; omega); (simp -dsimp -implicitDefEqProofs (maxSteps := 1000000) (disch := first | omega | (simp only [LN, hs]; omega)) only [go_sem, hs]; try trivial)); exact .inl hs)
  ·obtain rfl : i = p.length := by omega
   repeat' (first
    | (with_reducible first | apply zY | apply zT | apply zM | apply zN | apply zO | refine chk_ok (by kernel_rfl) ?_)
    | ((with_reducible first | apply zP | apply zQ | apply zR | apply zL) <;> intro h <;> try (exfalso; first | omega | exact h rfl | (revert h; decide) | (cases h; done)))
    | ((with_reducible show False); omega)
    | ((first | (with_reducible first | apply zW | apply zV | apply zU | apply zS | apply zX | show VX _ _ _ _ _ _ _ | show vstep _ _ _ _ _ | show vskip _ _ _ | show withV _ _) | ((with_reducible show endA _ _ _ _ _ _ _); simp -implicitDefEqProofs only [endA]) | (with_reducible first | refine zB default (by first | omega | (simp only [LN, fW_len]; omega)) (by first | omega | (simp only [LN, fW_len]; omega)) ?_ | refine zC default (by first | omega | (simp only [LN, fW_len]; omega)) ?_ | refine And.intro (by first | decide | omega | assumption | (simp only [LN, fW_len]; omega)) ?_) | (with_reducible first | apply zG | apply zH | apply zI) | ((with_reducible apply zJ); (first | exact dOf6 _ n (fW_len _ _ _) hn | fail)) | ((with_reducible show pickE _ _ _); first | refine zA _ ⟨by omega, by rfl⟩ ?_ | refine zA _ (by rfl) ?_) | fail); try simp -dsimp -implicitDefEqProofs (maxSteps := 1000000) (disch := first | omega | (simp only [LN, fW_len]; omega)) only [go_sem, fW_len])
    | fail)
   all_goals first | omega | (simp [Dv.fresh, jk]; done)
def pB (ws : List Int) (m : Nat) : List UInt8 := (List.range m).map fun j => UInt8.ofNat (byW ws j).toNat
theorem pB_len (ws : List Int) (m : Nat) : (pB ws m).length = m := by simp [pB]
theorem byL_pB (ws : List Int) (m : Nat) : byL ws m m = (pB ws m).map eC := by
 unfold byL pB eC
 rw [List.map_map]
 refine List.map_congr_left fun j hj => ?_
 have hj := List.mem_range.1 hj
 simp only [Function.comp_def, hj, if_true]
 congr 2
 unfold byW
 rw [IntKind.wrap_u8]
 have h0 : 0 ≤ ws.getD (j / 8) 0 / 2 ^ (j % 8 * 8) % 256 := Int.emod_nonneg _ (by decide)
 have h1 : ws.getD (j / 8) 0 / 2 ^ (j % 8 * 8) % 256 < 256 := Int.emod_lt_of_pos _ (by decide)
 generalize ws.getD (j / 8) 0 / 2 ^ (j % 8 * 8) % 256 = x at *
 simp; omega
def imgC (A : Dv) (c : List UInt8) : List Int := if c.length = 0 then A.per else imgW A c (dirL A A.n).length
theorem imgC_len (A : Dv) (c : List UInt8) : (imgC A c).length = A.per.length := by
 unfold imgC; split
 ·rfl
 ·exact imgW_len _ _ _
theorem dImage6n (A : Dv) (J : JT) (h : WF A) (c : List UInt8) (hc : c.length = 0) : ACalls Tryz.prog 83 [.loc 0 0, .p (.view 1 (c.map eC))] (dvL A J) (.sl 26 1 0 (64 * A.n)) (dvL A J ++ [.arr 1 (byL A.per (64 * A.n) (64 * A.n))]) := by
 refine yA (E := E) (fn := Tryz.f83) 56 [.tmp 4] rfl rfl rfl rfl (by decide) rfl rfl ?_
 have h6 := h.n6
 have h0 := h.n0
 have hp := h.per
 have k75 := dClone A.per (by omega)
 rw [hp] at k75
 have kb := dBytes A.per (by omega)
 rw [hp, show 8 * (8 * A.n) = 64 * A.n by omega] at kb
 repeat' (first
  | (with_reducible first | apply zY | apply zT | apply zM | apply zN | apply zO | refine chk_ok (by kernel_rfl) ?_)
  | ((with_reducible first | apply zP | apply zQ | apply zR | apply zL) <;> intro h <;> try (exfalso; first | omega | exact h rfl | (revert h; decide) | (cases h; done)))
  | ((with_reducible show False); omega)
  | ((first | (with_reducible first | apply zW | apply zV | apply zU | apply zS | apply zX | show VX _ _ _ _ _ _ _ | show vstep _ _ _ _ _ | show vskip _ _ _ | show withV _ _) | ((with_reducible show endA _ _ _ _ _ _ _); simp -implicitDefEqProofs only [endA]) | (with_reducible first | refine zB default (by first | omega | (simp only [LN]; omega)) (by first | omega | (simp only [LN]; omega)) ?_ | refine zC default (by first | omega | (simp only [LN]; omega)) ?_ | refine And.intro (by first | decide | omega | assumption | (simp only [LN]; omega)) ?_) | (with_reducible first | apply zG | apply zH | apply zI) | ((with_reducible apply zJ); (first | exact k75 | exact kb | fail)) | ((with_reducible show pickE _ _ _); first | refine zA _ ⟨by omega, by rfl⟩ ?_ | refine zA _ (by rfl) ?_) | fail); try simp -dsimp -implicitDefEqProofs (maxSteps := 1000000) (disch := first | omega | (simp only [LN]; omega)) only [go_sem])
  | fail)
 all_goals first | omega
theorem dImageC (A : Dv) (J : JT) (h : WF A) (hj : ∀ r, r < 6 → (jk A J r).length ≤ 1000000000) (c : List UInt8) (hc : c.length ≤ 100000) : ACalls Tryz.prog 83 [.loc 0 0, .p (.view 1 (c.map eC))] (dvL A J) (.sl 26 1 0 (64 * A.n)) (dvL A J ++ [.arr 1 ((pB (imgC A c) (64 * A.n)).map eC)]) := by
 rw [← byL_pB]
 unfold imgC
 by_cases h0 : c.length = 0
 ·rw [if_pos h0]; exact dImage6n A J h c h0
 ·rw [if_neg h0]; exact dImage6 A J h hj c ⟨by omega, hc⟩
def Dv.crash (A : Dv) (c : List UInt8) : Dv := Dv.fresh A.n (fW (pB (imgC A c) (64 * A.n)) (8 * A.n) (64 * A.n))
theorem dCrash6 (A : Dv) (J : JT) (h : WF A) (hj : ∀ r, r < 6 → (jk A J r).length ≤ 1000000000) (c : List UInt8) (hc : c.length ≤ 100000) : ACalls Tryz.prog 37 [.loc 0 0, .p (.view 1 (c.map eC))] (dvL A J) (.loc 26 0) (dvL A J ++ [deO (A.crash c) 27 28 29 30, peO (A.crash c), cuO (A.crash c), liO (A.crash c) J0 38, thO (A.crash c) 0 26 44, thO (A.crash c) 1 26 44, thO (A.crash c) 2 26 44, thO (A.crash c) 3 26 44, thO (A.crash c) 4 26 44, thO (A.crash c) 5 26 44, thO (A.crash c) 6 26 44, thO (A.crash c) 7 26 44, hiO (A.crash c) J0 0, hiO (A.crash c) J0 1, hiO (A.crash c) J0 2, hiO (A.crash c) J0 3, hiO (A.crash c) J0 4, hiO (A.crash c) J0 5, noO (A.crash c) 0, noO (A.crash c) 1, noO (A.crash c) 2, noO (A.crash c) 3, noO (A.crash c) 4, noO (A.crash c) 5, noO (A.crash c) 6, noO (A.crash c) 7]) := by
 refine yA (E := E) (fn := Tryz.f37) 19 [.tmp 4] rfl rfl rfl rfl (by decide) rfl rfl ?_
 have h6 := h.n6
 have h0 := h.n0
 have ki := dImageC A J h hj c hc
 have kf := dFrom6s (pB (imgC A c) (64 * A.n)) A.n (pB_len _ _) ⟨h0, h6⟩
 rw [pB_len] at kf
 repeat' (first
  | (with_reducible first | apply zY | apply zT | apply zM | apply zN | apply zO | refine chk_ok (by kernel_rfl) ?_)
  | ((with_reducible first | apply zP | apply zQ | apply zR | apply zL) <;> intro h <;> try (exfalso; first | omega | exact h rfl | (revert h; decide) | (cases h; done)))
  | ((with_reducible show False); omega)
  | ((first | (with_reducible first | apply zW | apply zV | apply zU | apply zS | apply zX | show VX _ _ _ _ _ _ _ | show vstep _ _ _ _ _ | show vskip _ _ _ | show withV _ _) | ((with_reducible show endA _ _ _ _ _ _ _); simp -implicitDefEqProofs only [endA]) | (with_reducible first | refine zB default (by first | omega | (simp only [LN, pB_len]; omega)) (by first | omega | (simp only [LN, pB_len]; omega)) ?_ | refine zC default (by first | omega | (simp only [LN, pB_len]; omega)) ?_ | refine And.intro (by first | decide | omega | assumption | (simp only [LN, pB_len]; omega)) ?_) | (with_reducible first | apply zG | apply zH | apply zI) | ((with_reducible apply zJ); (first | exact ki | exact kf | fail)) | ((with_reducible show pickE _ _ _); first | refine zA _ ⟨by omega, by rfl⟩ ?_ | refine zA _ (by rfl) ?_) | fail); try simp -dsimp -implicitDefEqProofs (maxSteps := 1000000) (disch := first | omega | (simp only [LN, pB_len]; omega)) only [go_sem, pB_len])
  | fail)
 all_goals first | omega | (simp [Dv.crash]; done)
end Go.Proofs.YtckhjklcfagkoaaGreatDoor
namespace Go.Proofs.YtckhjklcfagkoaaGreatDoor
open Go Go.Ab
attribute [local irreducible] callK callF loopQ vstep vskip pickE hideP
set_option maxRecDepth 100000
theorem dirL_pre (A : Dv) {r n : Nat} (h : r ≤ n) : ∃ T, dirL A n = dirL A r ++ T := by
 induction n with
 | zero =>
  obtain rfl : r = 0 := by omega
  exact ⟨[], (List.append_nil _).symm⟩
 | succ n ih =>
  rcases Nat.lt_or_ge n r with h1 | h1
  ·obtain rfl : r = n + 1 := by omega
   exact ⟨[], (List.append_nil _).symm⟩
  ·obtain ⟨T, hT⟩ := ih h1
   exact ⟨T ++ if A.hist n = [] then [] else [n], by rw [dirL_s, hT, List.append_assoc]⟩
theorem dirL_at {A : Dv} {r n : Nat} (h : r < n) (hd : A.hist r ≠ []) : (dirL A r).length < (dirL A n).length ∧ (dirL A n).getD (dirL A r).length default = r := by
 obtain ⟨T, hT⟩ := dirL_pre A (show r + 1 ≤ n from h)
 rw [dirL_s, if_neg hd] at hT
 rw [hT]
 exact ⟨by simp, by simp [List.getD_eq_getElem?_getD]⟩
theorem dirL_ix {A : Dv} {n i : Nat} (hi : i < (dirL A n).length) : A.hist ((dirL A n).getD i default) ≠ [] ∧ (dirL A n).getD i default < n ∧ (dirL A ((dirL A n).getD i default)).length = i := by
 induction n with
 | zero => exact absurd hi (by simp [dirL])
 | succ n ih =>
  rcases Nat.lt_or_ge i (dirL A n).length with h | h
  ·have e : (dirL A (n + 1)).getD i default = (dirL A n).getD i default := by
    rw [dirL_s, List.getD_eq_getElem?_getD, List.getD_eq_getElem?_getD, List.getElem?_append_left h]
   rw [e]
   obtain ⟨h1, h2, h3⟩ := ih h
   exact ⟨h1, by omega, h3⟩
  ·rw [dirL_s] at hi
   by_cases hd : A.hist n = []
   ·rw [if_pos hd, List.append_nil] at hi; omega
   ·rw [if_neg hd, List.length_append, List.length_singleton] at hi
    have e : (dirL A (n + 1)).getD i default = n := by
     rw [dirL_s, if_neg hd, List.getD_eq_getElem?_getD, List.getElem?_append_right h, show i - (dirL A n).length = 0 by omega]; rfl
    rw [e]
    exact ⟨hd, by omega, by omega⟩
theorem contS_dir {A : Dv} {f g : Nat → Nat} (h : ∀ r, r < A.n → A.hist r ≠ [] → f r = g r) : contS A f = contS A g := by
 unfold contS
 refine List.map_congr_left fun j hj => ?_
 have hj := List.mem_range.1 hj
 by_cases hd : A.hist (j / 8) = []
 ·rw [hd]; simp
 ·rw [h _ (by omega) hd]
theorem kC_map {A : Dv} (g : Nat → Nat) {r : Nat} (hr : r < A.n) (hd : A.hist r ≠ []) : kC A ((dirL A A.n).map g) r = g r := by
 obtain ⟨h1, h2⟩ := dirL_at hr hd
 have : kC A ((dirL A A.n).map g) r = ((dirL A A.n).map g).getD (dirL A r).length 0 := if_neg hd
 rw [this]
 rw [List.getD_eq_getElem?_getD, List.getElem?_eq_getElem h1] at h2
 simp only [Option.getD_some] at h2
 rw [List.getD_eq_getElem?_getD, List.getElem?_map, List.getElem?_eq_getElem h1]
 simp [h2]
theorem kC_le {A : Dv} (ks : List Nat) (g : Nat → Nat) (hg : ∀ r, r < A.n → A.hist r ≠ [] → kC A ks r = g r ∧ g r ≤ (A.hist r).length) (r : Nat) (hr : r < A.n) : kC A ks r ≤ (A.hist r).length := by
 by_cases hd : A.hist r = []
 ·rw [show kC A ks r = 0 from if_pos hd]; omega
 ·obtain ⟨h1, h2⟩ := hg r hr hd; omega
theorem imgW_get {A : Dv} (h : WF A) (c : List UInt8) {i : Nat} (hi : i ≤ (dirL A A.n).length) {j : Nat} (hj : j < 8 * A.n) : (imgW A c i).getD j 0 = if A.hist (j / 8) ≠ [] ∧ (dirL A (j / 8)).length < i then (appL A.per ((A.hist (j / 8)).take (kI A c (dirL A (j / 8)).length))).getD j 0 else A.per.getD j 0 := by
 have h6 := h.n6
 induction i with
 | zero => rw [if_neg (fun e => by omega)]; rfl
 | succ i ih =>
  have ih := ih (by omega)
  obtain ⟨d1, d2, d3⟩ := dirL_ix (show i < (dirL A A.n).length by omega)
  have hst : imgW A c (i + 1) = appL (imgW A c i) ((A.hist ((dirL A A.n).getD i default)).take (kI A c i)) := rfl
  rw [hst]
  generalize (dirL A A.n).getD i default = r at *
  by_cases hjr : j / 8 = r
  ·rw [hjr] at ih ⊢
   rw [if_pos ⟨d1, by omega⟩, d3]
   rw [if_neg (fun e => by omega)] at ih
   exact appL_loc _ j _ _ (imgW_len A c i) ih
  ·rw [appL_off _ j (fun x hx => by
    have := h.hist r (by omega) x (List.mem_of_mem_take hx)
    omega), ih]
   by_cases hd : A.hist (j / 8) = []
   ·rw [if_neg (fun e => e.1 hd), if_neg (fun e => e.1 hd)]
   ·have hne : (dirL A (j / 8)).length ≠ i := by
     intro e
     have h1 := (dirL_at (A := A) (n := A.n) (r := j / 8) (by omega) hd).2
     have h2 := (dirL_at (A := A) (n := A.n) d2 d1).2
     rw [e] at h1; rw [d3] at h2; omega
    by_cases hlt : (dirL A (j / 8)).length < i
    ·rw [if_pos ⟨hd, hlt⟩, if_pos ⟨hd, by omega⟩]
    ·rw [if_neg (fun e => hlt e.2), if_neg (fun e => by omega)]
def gI (A : Dv) (c : List UInt8) (r : Nat) : Nat := if c.length = 0 then 0 else kI A c (dirL A r).length
theorem contS_img {A : Dv} (h : WF A) (c : List UInt8) : contS A (gI A c) = imgC A c := by
 refine list_getD (by rw [contS_len, imgC_len, h.per]) fun j hj => ?_
 rw [contS_len] at hj
 rw [contS_get _ _ _ hj]
 unfold gI imgC
 by_cases hc : c.length = 0
 ·simp only [if_pos hc]; rw [List.take_zero]; rfl
 ·simp only [if_neg hc]
  rw [imgW_get h c (Nat.le_refl _) hj]
  by_cases hd : A.hist (j / 8) = []
  ·rw [if_neg (fun e => e.1 hd), hd]; simp [appL]
  ·rw [if_pos ⟨hd, (dirL_at (by omega) hd).1⟩]
theorem gI_le {A : Dv} (c : List UInt8) {r : Nat} (hr : r < A.n) (hd : A.hist r ≠ []) : gI A c r ≤ (A.hist r).length := by
 unfold gI kI
 rw [(dirL_at hr hd).2]
 split
 ·omega
 ·have := Nat.mod_lt (c.getD ((dirL A r).length % c.length) default).toNat (show 0 < (A.hist r).length + 1 by omega)
  omega
end Go.Proofs.YtckhjklcfagkoaaGreatDoor
