/- Contracts of functions of this program, and the plain facts that they rest on. No conditions. -/
import Derived.Test.YtckhjklcfagkoaaGreatDoorJDvI0Q
set_option linter.unusedSimpArgs false
set_option linter.unusedVariables false
namespace Go.Proofs.YtckhjklcfagkoaaGreatDoor
set_option maxHeartbeats 4000000
set_option maxRecDepth 100000
open Go Go.Ab
attribute [local irreducible] callK callF loopQ vstep vskip pickE hideP
attribute [local go_sem] eU deO peO cuO liO thO hiO noO
def dirL (A : Dv) (i : Nat) : List Nat := (List.range i).filter fun r => decide (A.hist r ≠ [])
theorem dirL_s (A : Dv) (i : Nat) : dirL A (i + 1) = dirL A i ++ if A.hist i = [] then [] else [i] := by
 unfold dirL
 rw [List.range_succ, List.filter_append]
 congr 1
 by_cases h : A.hist i = [] <;> simp [h]
def eNd (n : Nat) : PV := .v (.int .i64 n)
theorem dirL_len (A : Dv) (i : Nat) : (dirL A i).length ≤ i := by
 unfold dirL
 exact Nat.le_trans (List.length_filter_le _ _) (by simp)
theorem dDirty6 (A : Dv) (J : JT) (h : WF A) : ACalls Tryz.prog 55 [.loc 0 0] (dvL A J) (.sl 26 1 0 (dirL A A.n).length) (dvL A J ++ [.arr 1 ((dirL A A.n).map eNd)]) := by
 refine yA (E := E) (fn := Tryz.f55) 31 [.tmp 2] rfl rfl rfl rfl (by decide) rfl rfl ?_
 have h6 := h.n6
 repeat' (first
  | (with_reducible first | apply zY | apply zT | apply zM | apply zN | apply zO | refine chk_ok (by kernel_rfl) ?_)
  | ((with_reducible first | apply zP | apply zQ | apply zR | apply zL) <;> intro h)
  | ((with_reducible show False); omega)
  | ((first | (with_reducible first | apply zW | apply zV | apply zU | apply zS | apply zX | show VX _ _ _ _ _ _ _ | show vstep _ _ _ _ _ | show vskip _ _ _ | show withV _ _) | ((with_reducible show endA _ _ _ _ _ _ _); simp -implicitDefEqProofs only [endA]) | (with_reducible first | refine zB default (by first | omega | (simp only [LN]; omega)) (by first | omega | (simp only [LN]; omega)) ?_ | refine zC default (by first | omega | (simp only [LN]; omega)) ?_ | refine And.intro (by first | decide | omega | assumption | (simp only [LN]; omega)) ?_) | ((with_reducible show pickE _ _ _); first | refine zA _ ⟨by omega, by rfl⟩ ?_ | refine zA _ (by rfl) ?_) | fail); try simp -dsimp -implicitDefEqProofs (maxSteps := 1000000) (disch := first | omega | (simp only [LN]; omega)) only [go_sem])
  | fail)
 refine r_loopA (α := Nat) [0, 11] (fun i b => [(3, .sl b 1 0 (dirL A i).length), (12, aI i)]) (fun i b => []) (fun i => [.arr 1 ((dirL A i).map eNd)]) (fun i => i ≤ A.n) (fun i => A.n - i) (0) ?h0_1 ?hs0_1 ?I_1 ?hI_1 ?round_1
 case hI_1 => intro x; (simp -dsimp -implicitDefEqProofs (maxSteps := 1000000) (disch := first | omega | (simp only [LN]; omega)) only [go_sem]) <;> exact rfl
 case hs0_1 => refine wk_auto ?_; (simp -dsimp -implicitDefEqProofs (maxSteps := 1000000) (disch := first | omega | (simp only [LN, show dirL A 0 = [] from rfl]; omega)) only [go_sem, show dirL A 0 = [] from rfl]) <;> (try omega)
 case h0_1 => exact Nat.zero_le _
 case round_1 =>
  intro i h1
  have hl := dirL_len A i
  have hs := dirL_s A i
  by_cases hi : i < A.n
  ·by_cases hd : A.hist i = []
   ·have h0 : (A.hist i).length = 0 := by rw [hd]; rfl
    rw [if_pos hd, List.append_nil] at hs
    repeat' (first
     | (with_reducible first | apply zY | apply zT | apply zM | apply zN | apply zO | refine chk_ok (by kernel_rfl) ?_)
     | ((with_reducible first | apply zP | apply zQ | apply zR | apply zL) <;> intro h <;> try (exfalso; first | omega | exact h rfl | (revert h; decide) | (cases h; done)))
     | ((with_reducible show False); omega)
     | ((first | (with_reducible first | apply zW | apply zV | apply zU | apply zS | apply zX | show VX _ _ _ _ _ _ _ | show vstep _ _ _ _ _ | show vskip _ _ _ | show withV _ _) | ((with_reducible show endA _ _ _ _ _ _ _); simp -implicitDefEqProofs only [endA]) | (with_reducible first | refine zB default (by first | omega | (simp only [LN]; omega)) (by first | omega | (simp only [LN]; omega)) ?_ | refine zC default (by first | omega | (simp only [LN]; omega)) ?_ | refine And.intro (by first | decide | omega | assumption | (simp only [LN]; omega)) ?_) | ((with_reducible show pickE _ _ _); first | refine zA _ ⟨by omega, by rfl⟩ ?_ | refine zA _ (by rfl) ?_) | fail); try simp -dsimp -implicitDefEqProofs (maxSteps := 1000000) (disch := first | omega | (simp only [LN]; omega)) only [go_sem])
     | fail)
    all_goals first | omega | (refine zZ (i + 1) ?_ ?_ ?_; (omega); (show _ < _; omega); (simp -dsimp -implicitDefEqProofs (maxSteps := 1000000) (disch := first | omega | (simp only [LN, hs]; omega)) only [go_sem, hs]; try trivial))
   ·have h0 : 0 < (A.hist i).length := List.length_pos_iff.2 hd
    rw [if_neg hd] at hs
    repeat' (first
     | (with_reducible first | apply zY | apply zT | apply zM | apply zN | apply zO | refine chk_ok (by kernel_rfl) ?_)
     | ((with_reducible first | apply zP | apply zQ | apply zR | apply zL) <;> intro h <;> try (exfalso; first | omega | exact h rfl | (revert h; decide) | (cases h; done)))
     | ((with_reducible show False); omega)
     | ((first | (with_reducible first | apply zW | apply zV | apply zU | apply zS | apply zX | show VX _ _ _ _ _ _ _ | show vstep _ _ _ _ _ | show vskip _ _ _ | show withV _ _) | ((with_reducible show endA _ _ _ _ _ _ _); simp -implicitDefEqProofs only [endA]) | (with_reducible first | refine zB default (by first | omega | (simp only [LN]; omega)) (by first | omega | (simp only [LN]; omega)) ?_ | refine zC default (by first | omega | (simp only [LN]; omega)) ?_ | refine And.intro (by first | decide | omega | assumption | (simp only [LN]; omega)) ?_) | ((with_reducible show pickE _ _ _); first | refine zA _ ⟨by omega, by rfl⟩ ?_ | refine zA _ (by rfl) ?_) | fail); try simp -dsimp -implicitDefEqProofs (maxSteps := 1000000) (disch := first | omega | (simp only [LN]; omega)) only [go_sem])
     | fail)
    all_goals first | omega | ((refine zZ (i + 1) ?_ ?_ ?_; (omega); (show _ < _; omega); (simp -dsimp -implicitDefEqProofs (maxSteps := 1000000) (disch := first | omega | (simp only [LN, hs]; omega)) only [go_sem, hs]; try trivial)); simp [eNd])
  ·obtain rfl : i = A.n := by omega
   repeat' (first
    | (with_reducible first | apply zY | apply zT | apply zM | apply zN | apply zO | refine chk_ok (by kernel_rfl) ?_)
    | ((with_reducible first | apply zP | apply zQ | apply zR | apply zL) <;> intro h <;> try (exfalso; first | omega | exact h rfl | (revert h; decide) | (cases h; done)))
    | ((with_reducible show False); omega)
    | ((first | (with_reducible first | apply zW | apply zV | apply zU | apply zS | apply zX | show VX _ _ _ _ _ _ _ | show vstep _ _ _ _ _ | show vskip _ _ _ | show withV _ _) | ((with_reducible show endA _ _ _ _ _ _ _); simp -implicitDefEqProofs only [endA]) | (with_reducible first | refine zB default (by first | omega | (simp only [LN]; omega)) (by first | omega | (simp only [LN]; omega)) ?_ | refine zC default (by first | omega | (simp only [LN]; omega)) ?_ | refine And.intro (by first | decide | omega | assumption | (simp only [LN]; omega)) ?_) | ((with_reducible show pickE _ _ _); first | refine zA _ ⟨by omega, by rfl⟩ ?_ | refine zA _ (by rfl) ?_) | fail); try simp -dsimp -implicitDefEqProofs (maxSteps := 1000000) (disch := first | omega | (simp only [LN]; omega)) only [go_sem])
    | fail)
   all_goals first | omega | rfl
end Go.Proofs.YtckhjklcfagkoaaGreatDoor
namespace Go.Proofs.YtckhjklcfagkoaaGreatDoor
set_option maxHeartbeats 4000000
set_option maxRecDepth 100000
open Go Go.Ab
attribute [local irreducible] callK callF loopQ vstep vskip pickE hideP
attribute [local go_sem] eU eNd deO peO cuO liO thO hiO noO
def eC (b : UInt8) : PV := .v (.int .u8 b.toNat)
attribute [local go_sem] eC
theorem dClone (l : List Int) (h : 0 < l.length ∧ l.length ≤ 1000000) : ACalls Tryz.prog 63 [.sl 0 1 0 l.length] [.arr 1 (l.map eU)] (.sl 1 1 0 l.length) [.arr 1 (l.map eU), .arr 1 (l.map eU)] := by
 refine yA (E := E) (fn := Tryz.f63) 8 [.tmp 2] rfl rfl rfl rfl (by decide) rfl rfl ?_
 repeat' (first
  | (with_reducible first | apply zY | apply zT | apply zM | apply zN | apply zO | refine chk_ok (by kernel_rfl) ?_)
  | ((with_reducible first | apply zP | apply zQ | apply zR | apply zL) <;> intro h)
  | ((with_reducible show False); omega)
  | ((first | (with_reducible first | apply zW | apply zV | apply zU | apply zS | apply zX | show VX _ _ _ _ _ _ _ | show vstep _ _ _ _ _ | show vskip _ _ _ | show withV _ _) | ((with_reducible show endA _ _ _ _ _ _ _); simp -implicitDefEqProofs only [endA]) | (with_reducible first | refine zB default (by first | omega | (simp only [LN]; omega)) (by first | omega | (simp only [LN]; omega)) ?_ | refine zC default (by first | omega | (simp only [LN]; omega)) ?_ | refine And.intro (by first | decide | omega | assumption | (simp only [LN]; omega)) ?_) | ((with_reducible show pickE _ _ _); first | refine zA _ ⟨by omega, by rfl⟩ ?_ | refine zA _ (by rfl) ?_) | fail); try simp -dsimp -implicitDefEqProofs (maxSteps := 1000000) (disch := first | omega | (simp only [LN]; omega)) only [go_sem])
  | fail)
def kI (A : Dv) (c : List UInt8) (i : Nat) : Nat := (c.getD (i % c.length) default).toNat % ((A.hist ((dirL A A.n).getD i default)).length + 1)
def imgW (A : Dv) (c : List UInt8) : Nat → List Int
 | 0 => A.per
 | i + 1 => appL (imgW A c i) ((A.hist ((dirL A A.n).getD i default)).take (kI A c i))
theorem imgW_len (A : Dv) (c : List UInt8) : ∀ i, (imgW A c i).length = A.per.length
 | 0 => rfl
 | i + 1 => by rw [imgW, appL_len, imgW_len A c i]
theorem dirL_lt (A : Dv) (i : Nat) (h : i < (dirL A A.n).length) : (dirL A A.n).getD i default < A.n := by
 rw [List.getD_eq_getElem?_getD, List.getElem?_eq_getElem h]
 have := List.getElem_mem h
 generalize (dirL A A.n)[i] = x at *
 unfold dirL at this
 rw [List.mem_filter, List.mem_range] at this
 exact this.1
theorem dImage6 (A : Dv) (J : JT) (h : WF A) (hj : ∀ r, r < 6 → (jk A J r).length ≤ 1000000000) (c : List UInt8) (hc : 0 < c.length ∧ c.length ≤ 100000) : ACalls Tryz.prog 83 [.loc 0 0, .p (.view 1 (c.map eC))] (dvL A J) (.sl 26 1 0 (64 * A.n)) (dvL A J ++ [.arr 1 (byL (imgW A c (dirL A A.n).length) (64 * A.n) (64 * A.n))]) := by
 refine yA (E := E) (fn := Tryz.f83) 56 [.tmp 4] rfl rfl rfl rfl (by decide) rfl rfl ?_
 have h6 := h.n6
 have h0 := h.n0
 have hp := h.per
 have k75 := dClone A.per (by omega)
 rw [hp] at k75
 have kd := dDirty6 A J h
 have hdl := dirL_len A A.n
 have hln := h.len
 have hhs := h.hist
 repeat' (first
  | (with_reducible first | apply zY | apply zT | apply zM | apply zN | apply zO | refine chk_ok (by kernel_rfl) ?_)
  | ((with_reducible first | apply zP | apply zQ | apply zR | apply zL) <;> intro h <;> try (exfalso; first | omega | exact h rfl | (revert h; decide) | (cases h; done)))
  | ((with_reducible show False); omega)
  | ((first | (with_reducible first | apply zW | apply zV | apply zU | apply zS | apply zX | show VX _ _ _ _ _ _ _ | show vstep _ _ _ _ _ | show vskip _ _ _ | show withV _ _) | ((with_reducible show endA _ _ _ _ _ _ _); simp -implicitDefEqProofs only [endA]) | (with_reducible first | refine zB default (by first | omega | (simp only [LN]; omega)) (by first | omega | (simp only [LN]; omega)) ?_ | refine zC default (by first | omega | (simp only [LN]; omega)) ?_ | refine And.intro (by first | decide | omega | assumption | (simp only [LN]; omega)) ?_) | (with_reducible first | apply zG | apply zH | apply zI) | ((with_reducible apply zJ); (first | exact k75 | exact kd | fail)) | ((with_reducible show pickE _ _ _); first | refine zA _ ⟨by omega, by rfl⟩ ?_ | refine zA _ (by rfl) ?_) | fail); try simp -dsimp -implicitDefEqProofs (maxSteps := 1000000) (disch := first | omega | (simp only [LN]; omega)) only [go_sem])
  | fail)
 all_goals try omega
 refine r_loopA (α := Nat) [0, 1, 5, 21, 22] (fun i b => [(23, aI i)]) (fun i b => [(5, .arr 1 ((imgW A c i).map eU))]) (fun i => []) (fun i => i ≤ (dirL A A.n).length) (fun i => (dirL A A.n).length - i) (0) ?h0_1 ?hs0_1 ?I_1 ?hI_1 ?round_1
 case hI_1 => intro x; (simp -dsimp -implicitDefEqProofs (maxSteps := 1000000) (disch := first | omega | (simp only [LN]; omega)) only [go_sem]) <;> exact rfl
 case hs0_1 => refine wk_auto ?_; (simp -dsimp -implicitDefEqProofs (maxSteps := 1000000) (disch := first | omega | (simp only [LN, show imgW A c 0 = A.per from rfl]; omega)) only [go_sem, show imgW A c 0 = A.per from rfl]) <;> (try omega)
 case h0_1 => exact Nat.zero_le _
 case round_1 =>
  intro i h1
  by_cases hi : i < (dirL A A.n).length
  ·have hr := dirL_lt A i hi
   have hst : imgW A c (i + 1) = appL (imgW A c i) ((A.hist ((dirL A A.n).getD i default)).take (kI A c i)) := rfl
   have hk0 : kI A c i = (c.getD (i % c.length) default).toNat % ((A.hist ((dirL A A.n).getD i default)).length + 1) := rfl
   obtain ⟨r, hre⟩ : ∃ r, r = (dirL A A.n).getD i default := ⟨_, rfl⟩
   rw [← hre] at hr hst hk0
   have hre := hre.symm
   have hl := hln r (by omega)
   have hh := hhs r (by omega)
   have hkl : kI A c i ≤ (A.hist r).length := by rw [hk0]; have := Nat.mod_lt (c.getD (i % c.length) default).toNat (show 0 < (A.hist r).length + 1 by omega); omega
   have e1 : (i : Int).tmod c.length = ((i % c.length : Nat) : Int) := (Int.ofNat_tmod _ _).symm
   have e2 : i % c.length < c.length := Nat.mod_lt _ hc.1
   have e3 : IntKind.i64.wrap ((c.getD (i % c.length) default).toNat : Int) = ((c.getD (i % c.length) default).toNat : Int) := by
    have := (c.getD (i % c.length) default).toNat_lt; rw [IntKind.wrap_i64]; omega
   have e4 : IntKind.i64.wrap (((A.hist r).length : Int) + 1) = (((A.hist r).length + 1 : Nat) : Int) := by rw [IntKind.wrap_i64]; omega
   have e5 : ((c.getD (i % c.length) default).toNat : Int).tmod (((A.hist r).length + 1 : Nat) : Int) = ((kI A c i : Nat) : Int) := by rw [hk0]; exact (Int.ofNat_tmod _ _).symm
   have e6 : ((c.getD (i % c.length) default).toNat : Int).tmod (((A.hist r).length : Int) + 1) = ((kI A c i : Nat) : Int) := e5
   have hil := imgW_len A c i
   rw [hp] at hil
   have ka := dApply (imgW A c i) (jk A J r) (A.hist r) (8 * A.n) (jk A J r).length (kI A c i) hil rfl hkl (by omega) (fun x hx => by have := hh x hx; omega)
   have hjr := hj r (by omega)
   have hs : r = 0 ∨ r = 1 ∨ r = 2 ∨ r = 3 ∨ r = 4 ∨ r = 5 := by omega
   rcases hs with rfl | rfl | rfl | rfl | rfl | rfl
   all_goals
    repeat' (first
     | (with_reducible first | apply zY | apply zT | apply zM | apply zN | apply zO | refine chk_ok (by kernel_rfl) ?_)
     | ((with_reducible first | apply zP | apply zQ | apply zR | apply zL) <;> intro h <;> try (exfalso; first | omega | exact h rfl | (revert h; decide) | (cases h; done)))
     | ((with_reducible show False); omega)
     | ((first | (with_reducible first | apply zW | apply zV | apply zU | apply zS | apply zX | show VX _ _ _ _ _ _ _ | show vstep _ _ _ _ _ | show vskip _ _ _ | show withV _ _) | ((with_reducible show endA _ _ _ _ _ _ _); simp -implicitDefEqProofs only [endA]) | (with_reducible first | refine zB default (by first | omega | (simp only [LN, e1, e2, e3, e4, e5, e6, hre]; omega)) (by first | omega | (simp only [LN, e1, e2, e3, e4, e5, e6, hre]; omega)) ?_ | refine zC default (by first | omega | (simp only [LN, e1, e2, e3, e4, e5, e6, hre]; omega)) ?_ | refine And.intro (by first | decide | omega | assumption | (simp only [LN, e1, e2, e3, e4, e5, e6, hre]; omega)) ?_) | (with_reducible first | apply zG | apply zH | apply zI) | ((with_reducible apply zJ); (first | exact ka | fail)) | ((with_reducible show pickE _ _ _); first | refine zA _ ⟨by omega, by rfl⟩ ?_ | refine zA _ (by rfl) ?_) | fail); try simp -dsimp -implicitDefEqProofs (maxSteps := 1000000) (disch := first | omega | (simp only [LN, e1, e2, e3, e4, e5, e6, hre]; omega)) only [go_sem, e1, e2, e3, e4, e5, e6, hre])
     | fail)
    all_goals try omega
    refine And.intro (by split <;> (simp <;> omega)) ?_
    repeat' (first
     | (with_reducible first | apply zY | apply zT | apply zM | apply zN | apply zO | refine chk_ok (by kernel_rfl) ?_)
     | ((with_reducible first | apply zP | apply zQ | apply zR | apply zL) <;> intro h <;> try (exfalso; first | omega | exact h rfl | (revert h; decide) | (cases h; done)))
     | ((with_reducible show False); omega)
     | ((first | (with_reducible first | apply zW | apply zV | apply zU | apply zS | apply zX | show VX _ _ _ _ _ _ _ | show vstep _ _ _ _ _ | show vskip _ _ _ | show withV _ _) | ((with_reducible show endA _ _ _ _ _ _ _); simp -implicitDefEqProofs only [endA]) | (with_reducible first | refine zB default (by first | omega | (simp only [LN, e1, e2, e3, e4, e5, e6, hre]; omega)) (by first | omega | (simp only [LN, e1, e2, e3, e4, e5, e6, hre]; omega)) ?_ | refine zC default (by first | omega | (simp only [LN, e1, e2, e3, e4, e5, e6, hre]; omega)) ?_ | refine And.intro (by first | decide | omega | assumption | (simp only [LN, e1, e2, e3, e4, e5, e6, hre]; omega)) ?_) | (with_reducible first | apply zG | apply zH | apply zI) | ((with_reducible apply zJ); (first | exact ka | fail)) | ((with_reducible show pickE _ _ _); first | refine zA _ ⟨by omega, by rfl⟩ ?_ | refine zA _ (by rfl) ?_) | fail); try simp -dsimp -implicitDefEqProofs (maxSteps := 1000000) (disch := first | omega | (simp only [LN, e1, e2, e3, e4, e5, e6, hre]; omega)) only [go_sem, e1, e2, e3, e4, e5, e6, hre])
     | fail)
    all_goals first | omega | (refine zZ (i + 1) ?_ ?_ ?_; (omega); (show _ < _; omega); (simp -dsimp -implicitDefEqProofs (maxSteps := 1000000) (disch := first | omega | (simp only [LN, hst]; omega)) only [go_sem, hst]; try trivial))
  ·obtain rfl : i = (dirL A A.n).length := by omega
   have hil := imgW_len A c (dirL A A.n).length
   rw [hp] at hil
   have kb := dBytes (imgW A c (dirL A A.n).length) (by omega)
   rw [hil, show 8 * (8 * A.n) = 64 * A.n by omega] at kb
   repeat' (first
    | (with_reducible first | apply zY | apply zT | apply zM | apply zN | apply zO | refine chk_ok (by kernel_rfl) ?_)
    | ((with_reducible first | apply zP | apply zQ | apply zR | apply zL) <;> intro h <;> try (exfalso; first | omega | exact h rfl | (revert h; decide) | (cases h; done)))
    | ((with_reducible show False); omega)
    | ((first | (with_reducible first | apply zW | apply zV | apply zU | apply zS | apply zX | show VX _ _ _ _ _ _ _ | show vstep _ _ _ _ _ | show vskip _ _ _ | show withV _ _) | ((with_reducible show endA _ _ _ _ _ _ _); simp -implicitDefEqProofs only [endA]) | (with_reducible first | refine zB default (by first | omega | (simp only [LN]; omega)) (by first | omega | (simp only [LN]; omega)) ?_ | refine zC default (by first | omega | (simp only [LN]; omega)) ?_ | refine And.intro (by first | decide | omega | assumption | (simp only [LN]; omega)) ?_) | (with_reducible first | apply zG | apply zH | apply zI) | ((with_reducible apply zJ); (first | exact kb | fail)) | ((with_reducible show pickE _ _ _); first | refine zA _ ⟨by omega, by rfl⟩ ?_ | refine zA _ (by rfl) ?_) | fail); try simp -dsimp -implicitDefEqProofs (maxSteps := 1000000) (disch := first | omega | (simp only [LN]; omega)) only [go_sem])
    | fail)
   all_goals first | omega | rfl
end Go.Proofs.YtckhjklcfagkoaaGreatDoor
