/- Contracts of functions of this program, and the plain facts that they rest on. No conditions. -/
import Derived.Test.YtckhjklcfagkoaaGreatDoorDvUQ
import Derived.Test.YtckhjklcfagkoaaGreatDoorJDvI0Q
set_option linter.unusedSimpArgs false
set_option linter.unusedVariables false
namespace Go.Proofs.YtckhjklcfagkoaaGreatDoor
set_option maxHeartbeats 4000000
set_option maxRecDepth 100000
open Go Go.Ab
attribute [local irreducible] callK callF loopQ vstep vskip pickE hideP
attribute [local go_sem] eU deO peO cuO liO thO hiO noO
theorem dCur6 (A : Dv) (J : JT) (h : WF A) : ACalls Tryz.prog 19 [.loc 0 0] (dvL A J) (.sl 26 1 0 (64 * A.n)) (dvL A J ++ [.arr 1 (byL A.cur (64 * A.n) (64 * A.n))]) := by
 refine yA (E := E) (fn := Tryz.f19) 10 [.tmp 2] rfl rfl rfl rfl (by decide) rfl rfl ?_
 have h6 := h.n6
 have hp := h.cur
 have k := dBytes A.cur (by rw [h.cur]; omega)
 rw [h.cur, show 8 * (8 * A.n) = 64 * A.n by omega] at k
 repeat' (first
  | (with_reducible first | apply zY | apply zT | apply zM | apply zN | apply zO | refine chk_ok (by kernel_rfl) ?_)
  | ((with_reducible first | apply zP | apply zQ | apply zR | apply zL) <;> intro h)
  | ((with_reducible show False); omega)
  | ((first | (with_reducible first | apply zW | apply zV | apply zU | apply zS | apply zX | show VX _ _ _ _ _ _ _ | show vstep _ _ _ _ _ | show vskip _ _ _ | show withV _ _) | ((with_reducible show endA _ _ _ _ _ _ _); simp -implicitDefEqProofs only [endA]) | (with_reducible first | refine zB default (by first | omega | (simp only [LN]; omega)) (by first | omega | (simp only [LN]; omega)) ?_ | refine zC default (by first | omega | (simp only [LN]; omega)) ?_ | refine And.intro (by first | decide | omega | assumption | (simp only [LN]; omega)) ?_) | (with_reducible first | apply zG | apply zH | apply zI) | ((with_reducible apply zJ); (first | exact k | fail)) | ((with_reducible show pickE _ _ _); first | refine zA _ ⟨by omega, by rfl⟩ ?_ | refine zA _ (by rfl) ?_) | fail); try simp -dsimp -implicitDefEqProofs (maxSteps := 1000000) (disch := first | omega | (simp only [LN]; omega)) only [go_sem])
  | fail)
theorem dExec6 (A : Dv) (J : JT) : ACalls Tryz.prog 22 [.loc 0 0] (dvL A J) (.p (.v (.int .u64 A.ex))) (dvL A J) := by
 refine yA (E := E) (fn := Tryz.f22) 9 [.tmp 2] rfl rfl rfl rfl (by decide) rfl rfl ?_
 repeat' (first
  | (with_reducible first | apply zY | apply zT | apply zM | apply zN | apply zO | refine chk_ok (by kernel_rfl) ?_)
  | ((with_reducible first | apply zP | apply zQ | apply zR | apply zL) <;> intro h)
  | ((with_reducible show False); omega)
  | ((first | (with_reducible first | apply zW | apply zV | apply zU | apply zS | apply zX | show VX _ _ _ _ _ _ _ | show vstep _ _ _ _ _ | show vskip _ _ _ | show withV _ _) | ((with_reducible show endA _ _ _ _ _ _ _); simp -implicitDefEqProofs only [endA]) | (with_reducible first | refine zB default (by first | omega | (simp only [LN]; omega)) (by first | omega | (simp only [LN]; omega)) ?_ | refine zC default (by first | omega | (simp only [LN]; omega)) ?_ | refine And.intro (by first | decide | omega | assumption | (simp only [LN]; omega)) ?_) | ((with_reducible show pickE _ _ _); first | refine zA _ ⟨by omega, by rfl⟩ ?_ | refine zA _ (by rfl) ?_) | fail); try simp -dsimp -implicitDefEqProofs (maxSteps := 1000000) (disch := first | omega | (simp only [LN]; omega)) only [go_sem])
  | fail)
def Dv.load (A : Dv) (o : Int) : Int := if (!A.off && A.isW o) = true then A.cur.getD (o / 8).toNat 0 else 0
theorem tLoad6 (A : Dv) (J : JT) (k : Nat) (hk : k < 8) (h : WF A) (o : Int) (ho : 0 ≤ o ∧ o ≤ 18446744073709551615) : ACalls Tryz.prog 79 [.loc (4 + k) 0, .p (.v (.int .u64 o))] (dvL A J) (.p (.v (.int .u64 (A.load o)))) (dvL (A.onS k (A.isW o)) J) := by
 refine yA (E := E) (fn := Tryz.f79) 33 [.tmp 4] rfl rfl rfl rfl (by decide) rfl rfl ?_
 have h6 := h.n6
 have hc := h.cur
 have kw := tWord A J k hk h.n6 o ho
 by_cases hv : (!A.off && A.isW o) = true
 ·have kn := tOn1 A J k hk _ hv
  have e0 : A.load o = A.cur.getD (o / 8).toNat 0 := if_pos hv
  rw [e0, onS_t hv]
  simp only [Bool.and_eq_true, Bool.not_eq_true'] at hv
  obtain ⟨h1, h2, h3⟩ := isW_of hv.2 ho.1
  have e1 : IntKind.u64.wrap (o.tdiv 8) = o / 8 := by rw [Int.tdiv_eq_ediv_of_nonneg (by omega), IntKind.wrap_u64]; omega
  have e2 : o.tdiv 8 = o / 8 := Int.tdiv_eq_ediv_of_nonneg (by omega)
  have e3 : IntKind.u64.wrap (o / 8) = o / 8 := by rw [IntKind.wrap_u64]; omega
  repeat' (first
   | (with_reducible first | apply zY | apply zT | apply zM | apply zN | apply zO | refine chk_ok (by kernel_rfl) ?_)
   | ((with_reducible first | apply zP | apply zQ | apply zR | apply zL) <;> intro h <;> try (exfalso; first | omega | exact h rfl | (revert h; decide) | (cases h; done)))
   | ((with_reducible show False); omega)
   | ((first | (with_reducible first | apply zW | apply zV | apply zU | apply zS | apply zX | show VX _ _ _ _ _ _ _ | show vstep _ _ _ _ _ | show vskip _ _ _ | show withV _ _) | ((with_reducible show endA _ _ _ _ _ _ _); simp -implicitDefEqProofs only [endA]) | (with_reducible first | refine zB default (by first | omega | (simp only [LN, hc, e1, e2, e3]; omega)) (by first | omega | (simp only [LN, hc, e1, e2, e3]; omega)) ?_ | refine zC default (by first | omega | (simp only [LN, hc, e1, e2, e3]; omega)) ?_ | refine And.intro (by first | decide | omega | assumption | (simp only [LN, hc, e1, e2, e3]; omega)) ?_) | (with_reducible first | apply zG | apply zH | apply zI) | ((with_reducible apply zJ); (first | exact kw | exact kn | fail)) | ((with_reducible show pickE _ _ _); first | refine zA _ ⟨by omega, by rfl⟩ ?_ | refine zA _ (by rfl) ?_) | fail); try simp -dsimp -implicitDefEqProofs (maxSteps := 1000000) (disch := first | omega | (simp only [LN, hc, e1, e2, e3]; omega)) only [go_sem, hc, e1, e2, e3])
   | fail)
  all_goals first | omega | rfl
 ·simp only [Bool.not_eq_true] at hv
  have kn := tOn0 A J k hk _ hv
  have e0 : A.load o = 0 := by unfold Dv.load; rw [hv]; rfl
  rw [e0]
  repeat' (first
   | (with_reducible first | apply zY | apply zT | apply zM | apply zN | apply zO | refine chk_ok (by kernel_rfl) ?_)
   | ((with_reducible first | apply zP | apply zQ | apply zR | apply zL) <;> intro h <;> try (exfalso; first | omega | exact h rfl | (revert h; decide) | (cases h; done)))
   | ((with_reducible show False); omega)
   | ((first | (with_reducible first | apply zW | apply zV | apply zU | apply zS | apply zX | show VX _ _ _ _ _ _ _ | show vstep _ _ _ _ _ | show vskip _ _ _ | show withV _ _) | ((with_reducible show endA _ _ _ _ _ _ _); simp -implicitDefEqProofs only [endA]) | (with_reducible first | refine zB default (by first | omega | (simp only [LN]; omega)) (by first | omega | (simp only [LN]; omega)) ?_ | refine zC default (by first | omega | (simp only [LN]; omega)) ?_ | refine And.intro (by first | decide | omega | assumption | (simp only [LN]; omega)) ?_) | (with_reducible first | apply zG | apply zH | apply zI) | ((with_reducible apply zJ); (first | exact kw | exact kn | fail)) | ((with_reducible show pickE _ _ _); first | refine zA _ ⟨by omega, by rfl⟩ ?_ | refine zA _ (by rfl) ?_) | fail); try simp -dsimp -implicitDefEqProofs (maxSteps := 1000000) (disch := first | omega | (simp only [LN]; omega)) only [go_sem])
   | fail)
  all_goals first | omega | rfl
theorem tErr6 (A : Dv) (J : JT) (k : Nat) (hk : k < 8) : ACalls Tryz.prog 59 [.loc (4 + k) 0] (dvL A J) (.p (.v (.int .i64 (A.err k)))) (dvL A J) := by
 refine yA (E := E) (fn := Tryz.f59) 16 [.tmp 2] rfl rfl rfl rfl (by decide) rfl rfl ?_
 repeat' (first
  | (with_reducible first | apply zY | apply zT | apply zM | apply zN | apply zO | refine chk_ok (by kernel_rfl) ?_)
  | ((with_reducible first | apply zP | apply zQ | apply zR | apply zL) <;> intro h)
  | ((with_reducible show False); omega)
  | ((first | (with_reducible first | apply zW | apply zV | apply zU | apply zS | apply zX | show VX _ _ _ _ _ _ _ | show vstep _ _ _ _ _ | show vskip _ _ _ | show withV _ _) | ((with_reducible show endA _ _ _ _ _ _ _); simp -implicitDefEqProofs only [endA]) | (with_reducible first | refine zB default (by first | omega | (simp only [LN]; omega)) (by first | omega | (simp only [LN]; omega)) ?_ | refine zC default (by first | omega | (simp only [LN]; omega)) ?_ | refine And.intro (by first | decide | omega | assumption | (simp only [LN]; omega)) ?_) | ((with_reducible show pickE _ _ _); first | refine zA _ ⟨by omega, by rfl⟩ ?_ | refine zA _ (by rfl) ?_) | fail); try simp -dsimp -implicitDefEqProofs (maxSteps := 1000000) (disch := first | omega | (simp only [LN]; omega)) only [go_sem])
  | fail)
theorem tID6 (A : Dv) (J : JT) (k : Nat) (hk : k < 8) : ACalls Tryz.prog 60 [.loc (4 + k) 0] (dvL A J) (.p (.v (.int .i64 k))) (dvL A J) := by
 refine yA (E := E) (fn := Tryz.f60) 9 [.tmp 2] rfl rfl rfl rfl (by decide) rfl rfl ?_
 repeat' (first
  | (with_reducible first | apply zY | apply zT | apply zM | apply zN | apply zO | refine chk_ok (by kernel_rfl) ?_)
  | ((with_reducible first | apply zP | apply zQ | apply zR | apply zL) <;> intro h)
  | ((with_reducible show False); omega)
  | ((first | (with_reducible first | apply zW | apply zV | apply zU | apply zS | apply zX | show VX _ _ _ _ _ _ _ | show vstep _ _ _ _ _ | show vskip _ _ _ | show withV _ _) | ((with_reducible show endA _ _ _ _ _ _ _); simp -implicitDefEqProofs only [endA]) | (with_reducible first | refine zB default (by first | omega | (simp only [LN]; omega)) (by first | omega | (simp only [LN]; omega)) ?_ | refine zC default (by first | omega | (simp only [LN]; omega)) ?_ | refine And.intro (by first | decide | omega | assumption | (simp only [LN]; omega)) ?_) | ((with_reducible show pickE _ _ _); first | refine zA _ ⟨by omega, by rfl⟩ ?_ | refine zA _ (by rfl) ?_) | fail); try simp -dsimp -implicitDefEqProofs (maxSteps := 1000000) (disch := first | omega | (simp only [LN]; omega)) only [go_sem])
  | fail)
theorem tSize6 (A : Dv) (J : JT) (k : Nat) (hk : k < 8) (hn : A.n ≤ 6) : ACalls Tryz.prog 61 [.loc (4 + k) 0] (dvL A J) (.p (.v (.int .u64 ((64 * A.n : Nat) : Int)))) (dvL A J) := by
 refine yA (E := E) (fn := Tryz.f61) 10 [.tmp 2] rfl rfl rfl rfl (by decide) rfl rfl ?_
 repeat' (first
  | (with_reducible first | apply zY | apply zT | apply zM | apply zN | apply zO | refine chk_ok (by kernel_rfl) ?_)
  | ((with_reducible first | apply zP | apply zQ | apply zR | apply zL) <;> intro h)
  | ((with_reducible show False); omega)
  | ((first | (with_reducible first | apply zW | apply zV | apply zU | apply zS | apply zX | show VX _ _ _ _ _ _ _ | show vstep _ _ _ _ _ | show vskip _ _ _ | show withV _ _) | ((with_reducible show endA _ _ _ _ _ _ _); simp -implicitDefEqProofs only [endA]) | (with_reducible first | refine zB default (by first | omega | (simp only [LN]; omega)) (by first | omega | (simp only [LN]; omega)) ?_ | refine zC default (by first | omega | (simp only [LN]; omega)) ?_ | refine And.intro (by first | decide | omega | assumption | (simp only [LN]; omega)) ?_) | (with_reducible first | apply zG | apply zH | apply zI) | ((with_reducible apply zJ); (first | exact dSize6 A J hn | fail)) | ((with_reducible show pickE _ _ _); first | refine zA _ ⟨by omega, by rfl⟩ ?_ | refine zA _ (by rfl) ?_) | fail); try simp -dsimp -implicitDefEqProofs (maxSteps := 1000000) (disch := first | omega | (simp only [LN]; omega)) only [go_sem])
  | fail)
end Go.Proofs.YtckhjklcfagkoaaGreatDoor
namespace Go.Proofs.YtckhjklcfagkoaaGreatDoor
set_option maxHeartbeats 4000000
set_option maxRecDepth 100000
open Go Go.Ab
attribute [local irreducible] callK callF loopQ vstep vskip pickE hideP
def eNt (p : Nat × Int) : PV := .agg [.v (.int .i64 p.1), .v (.int .i64 p.2)]
def wA (W : List Int) (r j : Nat) : PV := .v (.int .u64 (W.getD (8 * r + j) 0))
def lnP (A : Dv) (r : Nat) : PV := .agg [wA A.per r 0, wA A.per r 1, wA A.per r 2, wA A.per r 3, wA A.per r 4, wA A.per r 5, wA A.per r 6, wA A.per r 7, .view 2 ((A.hist r).map eWr), .v (.int .i64 (A.done r))]
def lnsR (A : Dv) : List PV := (List.range A.n).map (lnP A)
theorem lns_len (A : Dv) : (lnsR A).length = A.n := by simp [lnsR]
theorem lns_get (A : Dv) {r : Nat} (h : r < A.n) : (lnsR A)[r]? = some (lnP A r) := by simp [lnsR, h]
theorem lns_set {A B : Dv} (hn : B.n = A.n) {r : Nat} {e : PV} (he : e = lnP B r) (ho : ∀ i, i < A.n → i ≠ r → lnP B i = lnP A i) : (lnsR A).set r e = lnsR B := by
 subst he
 unfold lnsR
 rw [hn]
 apply List.ext_getElem (by simp)
 intro i h1 h2
 rw [List.getElem_set]
 simp only [List.getElem_map, List.getElem_range]
 split
 ·rename_i e; rw [e]
 ·rename_i e; exact (ho i (by simpa using h1) (fun h => e h.symm)).symm
def leftR (A : Dv) : Int := if A.armed = true then A.left else -1
def rdO (A : Dv) (M : MT) (l : Nat) : Ob := .var [.sl l 10 0 A.n, .p (.view 2 ((M 0).map eNt)), .p (.view 2 ((M 1).map eNt)), .p (.view 2 ((M 2).map eNt)), .p (.view 2 ((M 3).map eNt)), .p (.view 2 ((M 4).map eNt)), .p (.view 2 ((M 5).map eNt)), .p (.view 2 ((M 6).map eNt)), .p (.view 2 ((M 7).map eNt)), .p (.v (.int .i64 (A.err 0))), .p (.v (.int .i64 (A.err 1))), .p (.v (.int .i64 (A.err 2))), .p (.v (.int .i64 (A.err 3))), .p (.v (.int .i64 (A.err 4))), .p (.v (.int .i64 (A.err 5))), .p (.v (.int .i64 (A.err 6))), .p (.v (.int .i64 (A.err 7))), .p (.v (.int .i64 (leftR A))), .p (.v (.bool A.off)), .p (.v (.int .u64 A.ex))]
def rlO (A : Dv) : Ob := .arr 10 (lnsR A)
attribute [local go_sem] rdO rlO
theorem rIs (A : Dv) (M : MT) (hn : A.n ≤ 6) (o : Int) (ho : 0 ≤ o ∧ o ≤ 18446744073709551615) : ACalls Tryz.prog 29 [.loc 0 0, .p (.v (.int .u64 o))] [rdO A M 1, rlO A] (.p (.v (.bool (A.isW o)))) [rdO A M 1, rlO A] := by
 refine yA (E := E) (fn := Tryz.f29) 19 [.tmp 4] rfl rfl rfl rfl (by decide) rfl rfl ?_
 have e1 : o.tmod 8 = o % 8 := Int.tmod_eq_emod_of_nonneg ho.1
 have e2 : IntKind.u64.wrap (o.tdiv 64) = o / 64 := by rw [Int.tdiv_eq_ediv_of_nonneg ho.1, IntKind.wrap_u64]; omega
 have e3 : IntKind.u64.wrap (A.n : Int) = A.n := by rw [IntKind.wrap_u64]; omega
 have e4 : IntKind.u64.wrap (o / 64) = o / 64 := by rw [IntKind.wrap_u64]; omega
 repeat' (first
  | (with_reducible first | apply zY | apply zT | apply zM | apply zN | apply zO | refine chk_ok (by kernel_rfl) ?_)
  | ((with_reducible first | apply zP | apply zQ | apply zR | apply zL) <;> intro h)
  | ((with_reducible show False); omega)
  | ((first | (with_reducible first | apply zW | apply zV | apply zU | apply zS | apply zX | show VX _ _ _ _ _ _ _ | show vstep _ _ _ _ _ | show vskip _ _ _ | show withV _ _) | ((with_reducible show endA _ _ _ _ _ _ _); simp -implicitDefEqProofs only [endA]) | (with_reducible first | refine zB default (by first | omega | (simp only [LN, e1, e2, e3, e4]; omega)) (by first | omega | (simp only [LN, e1, e2, e3, e4]; omega)) ?_ | refine zC default (by first | omega | (simp only [LN, e1, e2, e3, e4]; omega)) ?_ | refine And.intro (by first | decide | omega | assumption | (simp only [LN, e1, e2, e3, e4]; omega)) ?_) | ((with_reducible show pickE _ _ _); first | refine zA _ ⟨by omega, by rfl⟩ ?_ | refine zA _ (by rfl) ?_) | fail); try simp -dsimp -implicitDefEqProofs (maxSteps := 1000000) (disch := first | omega | (simp only [LN, e1, e2, e3, e4]; omega)) only [go_sem, e1, e2, e3, e4])
  | fail)
 all_goals first | (congr 1; unfold Dv.isW; rw [Bool.eq_iff_iff]; simp; omega)
theorem rFail (A : Dv) (M : MT) (k : Nat) (hk : k < 8) (e : Int) : ACalls Tryz.prog 106 [.loc 0 0, .p (.v (.int .i64 k)), .p (.v (.int .i64 e))] [rdO A M 1, rlO A] (.p (.tup [])) [rdO (A.fail k e) M 1, rlO (A.fail k e)] := by
 refine yA (E := E) (fn := Tryz.f106) 19 [] rfl rfl rfl rfl (by decide) rfl rfl ?_
 rcases lt8 hk with rfl | rfl | rfl | rfl | rfl | rfl | rfl | rfl
 all_goals
  repeat' (first
   | (with_reducible first | apply zY | apply zT | apply zM | apply zN | apply zO | refine chk_ok (by kernel_rfl) ?_)
   | ((with_reducible first | apply zP | apply zQ | apply zR | apply zL) <;> intro h)
   | ((with_reducible show False); omega)
   | ((first | (with_reducible first | apply zW | apply zV | apply zU | apply zS | apply zX | show VX _ _ _ _ _ _ _ | show vstep _ _ _ _ _ | show vskip _ _ _ | show withV _ _) | ((with_reducible show endA _ _ _ _ _ _ _); simp -implicitDefEqProofs only [endA]) | (with_reducible first | refine zB default (by first | omega | (simp only [LN]; omega)) (by first | omega | (simp only [LN]; omega)) ?_ | refine zC default (by first | omega | (simp only [LN]; omega)) ?_ | refine And.intro (by first | decide | omega | assumption | (simp only [LN]; omega)) ?_) | ((with_reducible show pickE _ _ _); first | refine zA _ ⟨by omega, by rfl⟩ ?_ | refine zA _ (by rfl) ?_) | fail); try simp -dsimp -implicitDefEqProofs (maxSteps := 1000000) (disch := first | omega | (simp only [LN]; omega)) only [go_sem])
   | fail)
  all_goals first | (simp [Dv.fail, upd, leftR, lnsR, lnP, h]; done)
end Go.Proofs.YtckhjklcfagkoaaGreatDoor
