/- Contracts of functions of this program, and the plain facts that they rest on. No conditions. -/
import Derived.Test.YtegekpjkbedngaaGreatJDvRxQ
import Derived.Test.YtegekpjkbedngaaGreatJDvFQ
import Derived.Test.YtegekpjkbedngaaGreatAc4
import Derived.Test.YtegekpjkbedngaaGreatJLfBQ
import Derived.Test.YtegekpjkbedngaaGreatJDvQQ
set_option linter.unusedSectionVars false
set_option linter.unusedSimpArgs false
set_option linter.unusedVariables false
namespace Go.Proofs.YtegekpjkbedngaaGreat
set_option maxHeartbeats 4000000
set_option maxRecDepth 100000
open Go Go.Ab
attribute [local irreducible] callK callF loopQ vstep vskip pickE hideP
def stO (l : List Ins) : Ob := .var [.ifc 43 (.loc 4 0), .p (.view 3 (l.map eIn))]
attribute [local go_sem] eIn eU deO peO cuO liO thO hiO noO stO
theorem kStep (A : Dv) (J : JT) (l : List Ins) (h0 : 0 < l.length) (h1 : l.length ≤ 1000) (hl : ∀ x, x ∈ l → RngI x) : ACalls Tryz.prog 15 [.ifc 43 (.loc 4 0), .p (.view 3 (l.map eIn))] [deO A 1 2 3 4, peO A, cuO A, liO A J 12, thO A 0 0 20, thO A 1 0 20, thO A 2 0 20, thO A 3 0 20, thO A 4 0 20, thO A 5 0 20, thO A 6 0 20, thO A 7 0 20, hiO A J 0, hiO A J 1, hiO A J 2, hiO A J 3, hiO A J 4, hiO A J 5, hiO A J 6, hiO A J 7, noO A 0, noO A 1, noO A 2, noO A 3, noO A 4, noO A 5, noO A 6, noO A 7] (.loc 28 0) [deO A 1 2 3 4, peO A, cuO A, liO A J 12, thO A 0 0 20, thO A 1 0 20, thO A 2 0 20, thO A 3 0 20, thO A 4 0 20, thO A 5 0 20, thO A 6 0 20, thO A 7 0 20, hiO A J 0, hiO A J 1, hiO A J 2, hiO A J 3, hiO A J 4, hiO A J 5, hiO A J 6, hiO A J 7, noO A 0, noO A 1, noO A 2, noO A 3, noO A 4, noO A 5, noO A 6, noO A 7, stO l] := by
 refine yA (E := E) (fn := Tryz.f15) 19 [.tmp 4] rfl rfl rfl rfl (by decide) rfl rfl ?_
 have k1 := kProgOk l hl
 have k2 := kProgCl l (by omega) h0
 repeat' (first
  | (with_reducible first | apply zY | apply zT | apply zM | apply zN | apply zO | refine chk_ok (by kernel_rfl) ?_)
  | ((with_reducible first | apply zP | apply zQ | apply zR | apply zL) <;> intro h <;> try (exfalso; first | omega | exact h rfl | (revert h; decide) | (cases h; done)))
  | ((with_reducible show False); omega)
  | ((first | (with_reducible first | apply zW | apply zV | apply zU | apply zS | apply zX | show VX _ _ _ _ _ _ _ | show vstep _ _ _ _ _ | show vskip _ _ _ | show withV _ _) | ((with_reducible show endA _ _ _ _ _ _ _); simp -implicitDefEqProofs only [endA]) | (with_reducible first | refine zB default (by first | omega | (simp only [LN]; omega)) (by first | omega | (simp only [LN]; omega)) ?_ | refine zC default (by first | omega | (simp only [LN]; omega)) ?_ | refine And.intro (by first | decide | omega | assumption | (simp only [LN]; omega)) ?_) | ((with_reducible apply zD); (exact k1)) | ((with_reducible apply zE); (exact k1); rfl) | ((with_reducible apply zF); (exact k1)) | (with_reducible first | apply zG | apply zH | apply zI | apply hidePI_own) | ((with_reducible apply zJ); (first | exact k2 | fail)) | ((with_reducible show pickE _ _ _); first | refine zA _ ⟨by omega, by rfl⟩ ?_ | refine zA _ (by rfl) ?_) | fail); try simp -dsimp -implicitDefEqProofs (maxSteps := 1000000) (disch := first | omega | (simp only [LN]; omega)) only [go_sem])
  | fail)
 all_goals first | omega
theorem dec0 (n : Nat) : ((n : Int) == 0) = decide (n = 0) := by cases n <;> rfl
theorem r_dx5 {E : Env} {nb : Nat} {Q : Exit → ASt → Prop} {s : ASt} {id : Nat} (T : List Nat) (v0 : AV) {a0 a1 a2 a3 a4 : Oper} {dst : Option Tmp} {f : Operand} {args : Array Operand} {ts : Array TypeId} {ty : TypeId} {pos : String} {af : Array Edge} {q : List Oper}
  (h : VX E (a0 :: a1 :: a2 :: a3 :: a4 :: ⟨dst, .call { callee := .value f, args := args, argTypes := ts }, ty, pos, af, none⟩ :: q) [a0, a1, a2, a3, a4] (lenL s.L) { s with L := addL s.L (holesOf (a0 :: a1 :: a2 :: a3 :: a4 :: ⟨dst, .call { callee := .value f, args := args, argTypes := ts }, ty, pos, af, none⟩ :: q)) } []
   (dxK E T v0 (a0 :: a1 :: a2 :: a3 :: a4 :: ⟨dst, .call { callee := .value f, args := args, argTypes := ts }, ty, pos, af, none⟩ :: q) q (lenL s.L + holesOf [a0, a1, a2, a3, a4]) (lenL s.L + holesOf [a0, a1, a2, a3, a4] + slotsOf ⟨dst, .call { callee := .value f, args := args, argTypes := ts }, ty, pos, af, none⟩) dst f args.toList ⟨dst, .call { callee := .value f, args := args, argTypes := ts }, ty, pos, af, none⟩ Q)) :
  awp E.P nb (.region id (a0 :: a1 :: a2 :: a3 :: a4 :: ⟨dst, .call { callee := .value f, args := args, argTypes := ts }, ty, pos, af, none⟩ :: q).toArray true) Q s := r_dx T v0 [a0, a1, a2, a3, a4] dst f args ts ty pos af q h
theorem kStepS (A : Dv) (J : JT) (N : Nat) (h : Inv A J N) (hN : N < 1000000000) (x : Ins) (l : List Ins) (hx : RngI x) (hl : l.length ≤ 1000) : ACallsX Tryz.prog 16 [.loc 28 0] [deO A 1 2 3 4, peO A, cuO A, liO A J 12, thO A 0 0 20, thO A 1 0 20, thO A 2 0 20, thO A 3 0 20, thO A 4 0 20, thO A 5 0 20, thO A 6 0 20, thO A 7 0 20, hiO A J 0, hiO A J 1, hiO A J 2, hiO A J 3, hiO A J 4, hiO A J 5, hiO A J 6, hiO A J 7, noO A 0, noO A 1, noO A 2, noO A 3, noO A 4, noO A 5, noO A 6, noO A 7, stO (x :: l)] (fun g : { J2 : JT // Inv (A.exec x) J2 (N + 1) } => .p (.v (.bool (decide (l.length = 0))))) (fun g : { J2 : JT // Inv (A.exec x) J2 (N + 1) } => [deO (A.exec x) 1 2 3 4, peO (A.exec x), cuO (A.exec x), liO (A.exec x) g.1 29, thO (A.exec x) 0 0 20, thO (A.exec x) 1 0 20, thO (A.exec x) 2 0 20, thO (A.exec x) 3 0 20, thO (A.exec x) 4 0 20, thO (A.exec x) 5 0 20, thO (A.exec x) 6 0 20, thO (A.exec x) 7 0 20, .dead, .dead, .dead, .dead, .dead, .dead, .dead, .dead, noO (A.exec x) 0, noO (A.exec x) 1, noO (A.exec x) 2, noO (A.exec x) 3, noO (A.exec x) 4, noO (A.exec x) 5, noO (A.exec x) 6, noO (A.exec x) 7, stO l, hiO (A.exec x) g.1 0, hiO (A.exec x) g.1 1, hiO (A.exec x) g.1 2, hiO (A.exec x) g.1 3, hiO (A.exec x) g.1 4, hiO (A.exec x) g.1 5, hiO (A.exec x) g.1 6, hiO (A.exec x) g.1 7]) := by
 refine yC (E := E) (fn := Tryz.f16) 40 [.tmp 2] rfl rfl rfl rfl (by decide) rfl (fun _ => rfl) ?_
 have kp := kExec A J N h hN x hx
 generalize A.exec x = B at *
 repeat' ((fail_if_success (with_reducible show awp _ _ (Code.region 5 _ _) _ _)); first
  | (with_reducible first | apply zY | apply zT | apply zM | apply zN | apply zO | refine chk_ok (by kernel_rfl) ?_)
  | ((with_reducible first | apply zP | apply zQ | apply zR | apply zL) <;> intro h <;> try (exfalso; first | omega | exact h rfl | (revert h; decide) | (cases h; done)))
  | ((with_reducible show False); omega)
  | ((first | (with_reducible first | apply zW | apply zV | apply zU | apply zS | apply zX | show VX _ _ _ _ _ _ _ | show vstep _ _ _ _ _ | show vskip _ _ _ | show withV _ _) | ((with_reducible show endA _ _ _ _ _ _ _); simp -implicitDefEqProofs only [endA]) | (with_reducible first | refine zB default (by first | omega | (simp only [LN]; omega)) (by first | omega | (simp only [LN]; omega)) ?_ | refine zC default (by first | omega | (simp only [LN]; omega)) ?_ | refine And.intro (by first | decide | omega | assumption | (simp only [LN]; omega)) ?_) | ((with_reducible show pickE _ _ _); first | refine zA _ ⟨by omega, by rfl⟩ ?_ | refine zA _ (by rfl) ?_) | fail); try simp -dsimp -implicitDefEqProofs (maxSteps := 1000000) (disch := first | omega | (simp only [LN]; omega)) only [go_sem])
  | fail)
 all_goals try omega
 refine r_dx5 [0, 1, 2, 3, 4, 5, 6, 7, 8, 9, 10, 11, 12, 13, 14, 15, 16, 17, 18, 19, 20, 21, 22, 23, 24, 25, 26, 27, 30, 31, 32, 33, 34, 35, 36, 37] (.p (.tup [])) ?_
 simp -dsimp -implicitDefEqProofs (maxSteps := 1000000) (disch := first | omega | (simp only [LN]; omega)) only [go_sem]
 repeat' (first
  | (with_reducible first | apply zY | apply zT | apply zM | apply zN | apply zO | refine chk_ok (by kernel_rfl) ?_)
  | ((with_reducible first | apply zP | apply zQ | apply zR | apply zL) <;> intro h <;> try (exfalso; first | omega | exact h rfl | (revert h; decide) | (cases h; done)))
  | ((with_reducible show False); omega)
  | ((first | (with_reducible first | apply zW | apply zV | apply zU | apply zS | apply zX | show VX _ _ _ _ _ _ _ | show vstep _ _ _ _ _ | show vskip _ _ _ | show withV _ _) | ((with_reducible show endA _ _ _ _ _ _ _); simp -implicitDefEqProofs only [endA]) | (with_reducible first | refine zB default (by first | omega | (simp only [LN]; omega)) (by first | omega | (simp only [LN]; omega)) ?_ | refine zC default (by first | omega | (simp only [LN]; omega)) ?_ | refine And.intro (by first | decide | omega | assumption | (simp only [LN]; omega)) ?_) | ((with_reducible show pickE _ _ _); first | refine zA _ ⟨by omega, by rfl⟩ ?_ | refine zA _ (by rfl) ?_) | fail); try simp -dsimp -implicitDefEqProofs (maxSteps := 1000000) (disch := first | omega | (simp only [LN]; omega)) only [go_sem])
  | fail)
 refine dx_ok (by kernel_rfl) ?_
 simp -dsimp -implicitDefEqProofs (maxSteps := 1000000) (disch := first | omega | (simp only [LN]; omega)) only [go_sem]
 refine zK kp fun gq => ?_
 simp -dsimp -implicitDefEqProofs (maxSteps := 1000000) (disch := first | omega | (simp only [LN]; omega)) only [go_sem]
 repeat' (first
  | (with_reducible first | apply zY | apply zT | apply zM | apply zN | apply zO | refine chk_ok (by kernel_rfl) ?_)
  | ((with_reducible first | apply zP | apply zQ | apply zR | apply zL) <;> intro h <;> try (exfalso; first | omega | exact h rfl | (revert h; decide) | (cases h; done)))
  | ((with_reducible show False); omega)
  | ((first | (with_reducible first | apply zW | apply zV | apply zU | apply zS | apply zX | show VX _ _ _ _ _ _ _ | show vstep _ _ _ _ _ | show vskip _ _ _ | show withV _ _) | ((with_reducible show endA _ _ _ _ _ _ _); simp -implicitDefEqProofs only [endA]) | (with_reducible first | refine zB default (by first | omega | (simp only [LN]; omega)) (by first | omega | (simp only [LN]; omega)) ?_ | refine zC default (by first | omega | (simp only [LN]; omega)) ?_ | refine And.intro (by first | decide | omega | assumption | (simp only [LN]; omega)) ?_) | ((with_reducible show pickE _ _ _); first | refine zA _ ⟨by omega, by rfl⟩ ?_ | refine zA _ (by rfl) ?_) | fail); try simp -dsimp -implicitDefEqProofs (maxSteps := 1000000) (disch := first | omega | (simp only [LN]; omega)) only [go_sem])
  | fail)
 all_goals first | omega | ((refine endX_i (gq) ?_; simp -implicitDefEqProofs only [endA]; (simp -dsimp -implicitDefEqProofs (maxSteps := 1000000) (disch := first | omega | (simp only [LN, dec0]; omega)) only [go_sem, dec0]; try trivial)))
noncomputable def Dv.execs (A : Dv) : List Ins → Dv
 | [] => A
 | x :: l => (A.exec x).execs l
theorem kRun (A : Dv) (J : JT) (N : Nat) (h : Inv A J N) (l : List Ins) (hN : N + l.length < 1000000000) (hR : ∀ x, x ∈ l → RngI x) : ACallsX Tryz.prog 9 [.p (.view 3 (l.map eIn)), .ifc 43 (.loc 4 0)] [deO A 1 2 3 4, peO A, cuO A, liO A J 12, thO A 0 0 20, thO A 1 0 20, thO A 2 0 20, thO A 3 0 20, thO A 4 0 20, thO A 5 0 20, thO A 6 0 20, thO A 7 0 20, hiO A J 0, hiO A J 1, hiO A J 2, hiO A J 3, hiO A J 4, hiO A J 5, hiO A J 6, hiO A J 7, noO A 0, noO A 1, noO A 2, noO A 3, noO A 4, noO A 5, noO A 6, noO A 7] (fun g : { J2 : JT // Inv (A.execs l) J2 (N + l.length) } => .p (.v (.int .i64 ((A.execs l).err 0)))) (fun g : { J2 : JT // Inv (A.execs l) J2 (N + l.length) } => [deO (A.execs l) 1 2 3 4, peO (A.execs l), cuO (A.execs l), liO (A.execs l) g.1 28, thO (A.execs l) 0 0 20, thO (A.execs l) 1 0 20, thO (A.execs l) 2 0 20, thO (A.execs l) 3 0 20, thO (A.execs l) 4 0 20, thO (A.execs l) 5 0 20, thO (A.execs l) 6 0 20, thO (A.execs l) 7 0 20, .dead, .dead, .dead, .dead, .dead, .dead, .dead, .dead, noO (A.execs l) 0, noO (A.execs l) 1, noO (A.execs l) 2, noO (A.execs l) 3, noO (A.execs l) 4, noO (A.execs l) 5, noO (A.execs l) 6, noO (A.execs l) 7, hiO (A.execs l) g.1 0, hiO (A.execs l) g.1 1, hiO (A.execs l) g.1 2, hiO (A.execs l) g.1 3, hiO (A.execs l) g.1 4, hiO (A.execs l) g.1 5, hiO (A.execs l) g.1 6, hiO (A.execs l) g.1 7]) := by
 refine yC (E := E) (fn := Tryz.f9) 26 [.tmp 4] rfl rfl rfl rfl (by decide) rfl (fun _ => rfl) ?_
 have k1 := kProgOk l hR
 repeat' (first
  | (with_reducible first | apply zY | apply zT | apply zM | apply zN | apply zO | refine chk_ok (by kernel_rfl) ?_)
  | ((with_reducible first | apply zP | apply zQ | apply zR | apply zL) <;> intro h <;> try (exfalso; first | omega | exact h rfl | (revert h; decide) | (cases h; done)))
  | ((with_reducible show False); omega)
  | ((first | (with_reducible first | apply zW | apply zV | apply zU | apply zS | apply zX | show VX _ _ _ _ _ _ _ | show vstep _ _ _ _ _ | show vskip _ _ _ | show withV _ _) | ((with_reducible show endA _ _ _ _ _ _ _); simp -implicitDefEqProofs only [endA]) | (with_reducible first | refine zB default (by first | omega | (simp only [LN]; omega)) (by first | omega | (simp only [LN]; omega)) ?_ | refine zC default (by first | omega | (simp only [LN]; omega)) ?_ | refine And.intro (by first | decide | omega | assumption | (simp only [LN]; omega)) ?_) | ((with_reducible apply zD); (exact k1)) | ((with_reducible apply zE); (exact k1); rfl) | ((with_reducible apply zF); (exact k1)) | ((with_reducible show pickE _ _ _); first | refine zA _ ⟨by omega, by rfl⟩ ?_ | refine zA _ (by rfl) ?_) | fail); try simp -dsimp -implicitDefEqProofs (maxSteps := 1000000) (disch := first | omega | (simp only [LN]; omega)) only [go_sem])
  | fail)
 all_goals try omega
 refine r_loop (α := Nat × Dv × (JT)) (fun y => ⟨26, [(1, some (.ifc 43 (.loc 4 0))), (14, some (.p (.view 3 (l.map eIn)))), (15, some (.p (.v (.int .i64 l.length)))), (16, some (.p (.v (.int .i64 y.1))))], [some (deO y.2.1 1 2 3 4), some (peO y.2.1), some (cuO y.2.1), some (liO y.2.1 y.2.2 28), some (thO y.2.1 0 0 20), some (thO y.2.1 1 0 20), some (thO y.2.1 2 0 20), some (thO y.2.1 3 0 20), some (thO y.2.1 4 0 20), some (thO y.2.1 5 0 20), some (thO y.2.1 6 0 20), some (thO y.2.1 7 0 20), some (.dead), some (.dead), some (.dead), some (.dead), some (.dead), some (.dead), some (.dead), some (.dead), some (noO y.2.1 0), some (noO y.2.1 1), some (noO y.2.1 2), some (noO y.2.1 3), some (noO y.2.1 4), some (noO y.2.1 5), some (noO y.2.1 6), some (noO y.2.1 7), some (hiO y.2.1 y.2.2 0), some (hiO y.2.1 y.2.2 1), some (hiO y.2.1 y.2.2 2), some (hiO y.2.1 y.2.2 3), some (hiO y.2.1 y.2.2 4), some (hiO y.2.1 y.2.2 5), some (hiO y.2.1 y.2.2 6), some (hiO y.2.1 y.2.2 7)]⟩)
  (fun y => y.1 ≤ l.length ∧ Inv y.2.1 y.2.2 (N + y.1) ∧ A.execs l = y.2.1.execs (l.drop y.1)) (fun y => l.length - y.1) (0, (A, J)) ⟨Nat.zero_le _, h, by rw [List.drop_zero]⟩ ?_ ?_
 ·refine wk_auto ?_
  simp -dsimp -implicitDefEqProofs (maxSteps := 1000000) (disch := first | omega | (simp only [LN]; omega)) only [go_sem]
 ·rintro ⟨i, D, K⟩ ⟨hi, hI, hx⟩
  simp only at hi hI hx
  have w3 : IntKind.i64.wrap ((i : Int) + 1) = ((i + 1 : Nat) : Int) := by rw [IntKind.wrap_i64]; push_cast; omega
  by_cases hi2 : i < l.length
  ·have hm : l.getD i default ∈ l := by rw [List.getD_eq_getElem?_getD, List.getElem?_eq_getElem hi2]; exact List.getElem_mem hi2
   have hr := hR _ hm
   have hdr : l.drop i = l.getD i default :: l.drop (i + 1) := by rw [List.drop_eq_getElem_cons hi2, List.getD_eq_getElem?_getD, List.getElem?_eq_getElem hi2]; rfl
   rw [hdr] at hx
   generalize hxx : l.getD i default = x at *
   have kp := kExec D K (N + i) hI (by omega) x hr
   have hx2 : A.execs l = (D.exec x).execs (l.drop (i + 1)) := hx
   generalize D.exec x = B at *
   repeat' (first
    | (with_reducible first | apply zY | apply zT | apply zM | apply zN | apply zO | refine chk_ok (by kernel_rfl) ?_)
    | ((with_reducible first | apply zP | apply zQ | apply zR | apply zL) <;> intro h <;> try (exfalso; first | omega | exact h rfl | (revert h; decide) | (cases h; done)))
    | ((with_reducible show False); omega)
    | ((with_reducible first | refine r_gr0 [30] (by with_unfolding_all exact rfl) ?_ | refine r_gr1 [30] (by with_unfolding_all exact rfl) ?_ | refine r_gr2 [30] (by with_unfolding_all exact rfl) ?_ | refine r_gr3 [30] (by with_unfolding_all exact rfl) ?_ | refine r_gr4 [30] (by with_unfolding_all exact rfl) ?_ | refine r_gr5 [30] (by with_unfolding_all exact rfl) ?_ | refine r_gr6 [30] (by with_unfolding_all exact rfl) ?_ | refine r_gr7 [30] (by with_unfolding_all exact rfl) ?_ | refine r_gr8 [30] (by with_unfolding_all exact rfl) ?_ | refine r_gr9 [30] (by with_unfolding_all exact rfl) ?_ | refine r_gr10 [30] (by with_unfolding_all exact rfl) ?_); simp -dsimp -implicitDefEqProofs (maxSteps := 1000000) (disch := first | omega | (simp only [LN, hxx]; omega)) only [go_sem, hxx])
    | ((first | (with_reducible first | apply zW | apply zV | apply zU | apply zS | apply zX | show VX _ _ _ _ _ _ _ | show vstep _ _ _ _ _ | show vskip _ _ _ | show withV _ _) | ((with_reducible show endA _ _ _ _ _ _ _); simp -implicitDefEqProofs only [endA]) | (with_reducible first | refine zB default (by first | omega | (simp only [LN, hxx]; omega)) (by first | omega | (simp only [LN, hxx]; omega)) ?_ | refine zC default (by first | omega | (simp only [LN, hxx]; omega)) ?_ | refine And.intro (by first | decide | omega | assumption | (simp only [LN, hxx]; omega)) ?_) | ((with_reducible apply zK); (first | exact kp | fail); intro gq) | ((with_reducible show pickE _ _ _); first | refine zA _ ⟨by omega, by rfl⟩ ?_ | refine zA _ (by rfl) ?_) | fail); try simp -dsimp -implicitDefEqProofs (maxSteps := 1000000) (disch := first | omega | (simp only [LN, hxx]; omega)) only [go_sem, hxx])
    | fail)
   all_goals first
    | omega
    | (refine zZ (i + 1, (B, gq.1)) ⟨by show i + 1 ≤ _; omega, gq.2.le (by omega), hx2⟩ (by show l.length - (i + 1) < l.length - i; omega) ?_; (simp -dsimp -implicitDefEqProofs (maxSteps := 1000000) (disch := first | omega | (simp only [LN, w3]; omega)) only [go_sem, w3]; try trivial))
  ·obtain rfl : i = l.length := by omega
   rw [List.drop_length] at hx
   have hx2 : A.execs l = D := hx
   have k2 := tErr6 D K 0 (by omega)
   rw [hx2]
   repeat' (first
    | (with_reducible first | apply zY | apply zT | apply zM | apply zN | apply zO | refine chk_ok (by kernel_rfl) ?_)
    | ((with_reducible first | apply zP | apply zQ | apply zR | apply zL) <;> intro h <;> try (exfalso; first | omega | exact h rfl | (revert h; decide) | (cases h; done)))
    | ((with_reducible show False); omega)
    | ((first | (with_reducible first | apply zW | apply zV | apply zU | apply zS | apply zX | show VX _ _ _ _ _ _ _ | show vstep _ _ _ _ _ | show vskip _ _ _ | show withV _ _) | ((with_reducible show endA _ _ _ _ _ _ _); simp -implicitDefEqProofs only [endA]) | (with_reducible first | refine zB default (by first | omega | (simp only [LN]; omega)) (by first | omega | (simp only [LN]; omega)) ?_ | refine zC default (by first | omega | (simp only [LN]; omega)) ?_ | refine And.intro (by first | decide | omega | assumption | (simp only [LN]; omega)) ?_) | (with_reducible first | apply zG | apply zH | apply zI | apply hidePI_own) | ((with_reducible apply zJ); (first | exact k2 | fail)) | ((with_reducible show pickE _ _ _); first | refine zA _ ⟨by omega, by rfl⟩ ?_ | refine zA _ (by rfl) ?_) | fail); try simp -dsimp -implicitDefEqProofs (maxSteps := 1000000) (disch := first | omega | (simp only [LN]; omega)) only [go_sem])
    | fail)
   all_goals first | omega | ((refine endX_i (⟨K, hI⟩) ?_; simp -implicitDefEqProofs only [endA]; (simp -dsimp -implicitDefEqProofs (maxSteps := 1000000) (disch := first | omega | (simp only [LN]; omega)) only [go_sem]; try trivial)))
end Go.Proofs.YtegekpjkbedngaaGreat
namespace Go.Proofs.YtegekpjkbedngaaGreat
set_option maxHeartbeats 4000000
set_option maxRecDepth 100000
open Go Go.Ab
attribute [local irreducible] callK callF loopQ vstep vskip pickE hideP
structure Nd (A : Dv) (a : Nat) (W : Nat → Int) (sl : List Nat) (c : Nat) : Prop where
 ld : ∀ i, i < 28 → A.cur.getD (a + 1 + i) 0 = W i
 w0 : W 0 = (perm sl c : Nat)
 w1 : W 1 = 0
 w2 : W 2 = 0
 w3 : W 3 = 0
 so : Sl sl
 srt : ∀ i, i + 1 < sl.length → W (4 + sl.getD i default) < W (4 + sl.getD (i + 1) default)
 hv : ∀ i, i < 28 → 0 ≤ W i ∧ W i ≤ 18446744073709551615
structure Rd (A : Dv) (k : Nat) : Prop where
 wf : WF A
 n8 : A.n = 8
 off : A.off = false
 err : A.err k = 0
attribute [local go_sem] coO eNd eU deO peO cuO liO thO hiO noO
theorem kValid (W : Nat → Int) (sl : List Nat) (c : Nat) (sz : Int) (hs : Sl sl) (h1 : W 1 = 0) (h2 : W 2 = 0) (h3 : W 3 = 0) (srt : ∀ i, i + 1 < sl.length → W (4 + sl.getD i default) < W (4 + sl.getD (i + 1) default)) : ACalls Tryz.prog 54 [.loc 0 0, .p (.v (.int .u64 sz))] [coO W sl c] (.p (.v (.bool true))) [coO W sl c] := by
 refine yA (E := E) (fn := Tryz.f54) 75 [.tmp 4] rfl rfl rfl rfl (by decide) rfl rfl ?_
 have hl := hs.2.2
 repeat' (first
  | (with_reducible first | apply zY | apply zT | apply zM | apply zN | apply zO | refine chk_ok (by kernel_rfl) ?_)
  | ((with_reducible first | apply zP | apply zQ | apply zR | apply zL) <;> intro h <;> try (exfalso; first | omega | exact h rfl | (revert h; decide) | (cases h; done)))
  | ((with_reducible show False); omega)
  | ((first | (with_reducible first | apply zW | apply zV | apply zU | apply zS | apply zX | show VX _ _ _ _ _ _ _ | show vstep _ _ _ _ _ | show vskip _ _ _ | show withV _ _) | ((with_reducible show endA _ _ _ _ _ _ _); simp -implicitDefEqProofs only [endA]) | (with_reducible first | refine zB default (by first | omega | (simp only [LN]; omega)) (by first | omega | (simp only [LN]; omega)) ?_ | refine zC default (by first | omega | (simp only [LN]; omega)) ?_ | refine And.intro (by first | decide | omega | assumption | (simp only [LN]; omega)) ?_) | ((with_reducible show pickE _ _ _); first | refine zA _ ⟨by omega, by rfl⟩ ?_ | refine zA _ (by rfl) ?_) | fail); try simp -dsimp -implicitDefEqProofs (maxSteps := 1000000) (disch := first | omega | (simp only [LN]; omega)) only [go_sem])
  | fail)
 refine r_loopA (α := Nat) [0, 1, 12] (fun i b => [(13, aI i)]) (fun i b => []) (fun i => []) (fun i => i ≤ sl.length) (fun i => sl.length - i) (0) ?h0_1 ?hs0_1 ?I_1 ?hI_1 ?round_1
 case hI_1 => intro x; (simp -dsimp -implicitDefEqProofs (maxSteps := 1000000) (disch := first | omega | (simp only [LN]; omega)) only [go_sem]) <;> exact rfl
 case hs0_1 => refine wk_auto ?_; (simp -dsimp -implicitDefEqProofs (maxSteps := 1000000) (disch := first | omega | (simp only [LN]; omega)) only [go_sem]) <;> (try omega)
 case h0_1 => exact Nat.zero_le _
 case round_1 =>
  intro i hi
  have w3 : IntKind.i64.wrap ((i : Int) + 1) = ((i + 1 : Nat) : Int) := by rw [IntKind.wrap_i64]; push_cast; omega
  by_cases hi2 : i < sl.length
  ·rcases i with _ | i
   ·repeat' (first
     | (with_reducible first | apply zY | apply zT | apply zM | apply zN | apply zO | refine chk_ok (by kernel_rfl) ?_)
     | ((with_reducible first | apply zP | apply zQ | apply zR | apply zL) <;> intro h <;> try (exfalso; first | omega | exact h rfl | (revert h; decide) | (cases h; done)))
     | ((with_reducible show False); omega)
     | ((first | (with_reducible first | apply zW | apply zV | apply zU | apply zS | apply zX | show VX _ _ _ _ _ _ _ | show vstep _ _ _ _ _ | show vskip _ _ _ | show withV _ _) | ((with_reducible show endA _ _ _ _ _ _ _); simp -implicitDefEqProofs only [endA]) | (with_reducible first | refine zB default (by first | omega | (simp only [LN]; omega)) (by first | omega | (simp only [LN]; omega)) ?_ | refine zC default (by first | omega | (simp only [LN]; omega)) ?_ | refine And.intro (by first | decide | omega | assumption | (simp only [LN]; omega)) ?_) | ((with_reducible show pickE _ _ _); first | refine zA _ ⟨by omega, by rfl⟩ ?_ | refine zA _ (by rfl) ?_) | fail); try simp -dsimp -implicitDefEqProofs (maxSteps := 1000000) (disch := first | omega | (simp only [LN]; omega)) only [go_sem])
     | fail)
    all_goals first | omega | ((refine zZ (1) ?_ ?_ ?_; (omega); (show _ < _; omega); (simp -dsimp -implicitDefEqProofs (maxSteps := 1000000) (disch := first | omega | (simp only [LN, w3]; omega)) only [go_sem, w3]; try trivial)))
   ·have k1 := kKey W sl c hs (i + 1) hi2
    have k2 := kKey W sl c hs i (by omega)
    have w4 : IntKind.i64.wrap (((i + 1 : Nat) : Int) - 1) = (i : Int) := by rw [IntKind.wrap_i64]; omega
    have w5 : IntKind.i64.wrap ((i : Int) + 1 - 1) = (i : Int) := by rw [IntKind.wrap_i64]; omega
    have q := srt i hi2
    repeat' (first
     | (with_reducible first | apply zY | apply zT | apply zM | apply zN | apply zO | refine chk_ok (by kernel_rfl) ?_)
     | ((with_reducible first | apply zP | apply zQ | apply zR | apply zL) <;> intro h <;> try (exfalso; first | omega | exact h rfl | (revert h; decide) | (cases h; done)))
     | ((with_reducible show False); omega)
     | ((first | (with_reducible first | apply zW | apply zV | apply zU | apply zS | apply zX | show VX _ _ _ _ _ _ _ | show vstep _ _ _ _ _ | show vskip _ _ _ | show withV _ _) | ((with_reducible show endA _ _ _ _ _ _ _); simp -implicitDefEqProofs only [endA]) | (with_reducible first | refine zB default (by first | omega | (simp only [LN, w4, w5]; omega)) (by first | omega | (simp only [LN, w4, w5]; omega)) ?_ | refine zC default (by first | omega | (simp only [LN, w4, w5]; omega)) ?_ | refine And.intro (by first | decide | omega | assumption | (simp only [LN, w4, w5]; omega)) ?_) | (with_reducible first | apply zG | apply zH | apply zI | apply hidePI_own) | ((with_reducible apply zJ); (first | exact k1 | exact k2 | fail)) | ((with_reducible show pickE _ _ _); first | refine zA _ ⟨by omega, by rfl⟩ ?_ | refine zA _ (by rfl) ?_) | fail); try simp -dsimp -implicitDefEqProofs (maxSteps := 1000000) (disch := first | omega | (simp only [LN, w4, w5]; omega)) only [go_sem, w4, w5])
     | fail)
    all_goals first | omega | ((refine zZ (i + 2) ?_ ?_ ?_; (omega); (show _ < _; omega); (simp -dsimp -implicitDefEqProofs (maxSteps := 1000000) (disch := first | omega | (simp only [LN, w3]; omega)) only [go_sem, w3]; try trivial)))
  ·obtain rfl : i = sl.length := by omega
   repeat' (first
    | (with_reducible first | apply zY | apply zT | apply zM | apply zN | apply zO | refine chk_ok (by kernel_rfl) ?_)
    | ((with_reducible first | apply zP | apply zQ | apply zR | apply zL) <;> intro h <;> try (exfalso; first | omega | exact h rfl | (revert h; decide) | (cases h; done)))
    | ((with_reducible show False); omega)
    | ((first | (with_reducible first | apply zW | apply zV | apply zU | apply zS | apply zX | show VX _ _ _ _ _ _ _ | show vstep _ _ _ _ _ | show vskip _ _ _ | show withV _ _) | ((with_reducible show endA _ _ _ _ _ _ _); simp -implicitDefEqProofs only [endA]) | (with_reducible first | refine zB default (by first | omega | (simp only [LN, h1, h2, h3]; omega)) (by first | omega | (simp only [LN, h1, h2, h3]; omega)) ?_ | refine zC default (by first | omega | (simp only [LN, h1, h2, h3]; omega)) ?_ | refine And.intro (by first | decide | omega | assumption | (simp only [LN, h1, h2, h3]; omega)) ?_) | ((with_reducible show pickE _ _ _); first | refine zA _ ⟨by omega, by rfl⟩ ?_ | refine zA _ (by rfl) ?_) | fail); try simp -dsimp -implicitDefEqProofs (maxSteps := 1000000) (disch := first | omega | (simp only [LN, h1, h2, h3]; omega)) only [go_sem, h1, h2, h3])
    | fail)
   all_goals first | omega
theorem wO_W {a i : Nat} (ha : a < 30) (hi : i < 28) (A : Dv) (hn : A.n = 8) : A.isW (wO a i : Nat) = true := by
 unfold Dv.isW; rw [wO_def, hn]; simp; omega
theorem tLd (A : Dv) (J : JT) (k : Nat) (hk : k < 8) (h : Rd A k) {a : Nat} (ha : a < 30) (i : Nat) (hi : i < 28) : ACalls Tryz.prog 110 [.loc (4 + k) 0, .p (.v (.int .u64 (wO a i : Nat)))] [deO A 1 2 3 4, peO A, cuO A, liO A J 12, thO A 0 0 20, thO A 1 0 20, thO A 2 0 20, thO A 3 0 20, thO A 4 0 20, thO A 5 0 20, thO A 6 0 20, thO A 7 0 20, hiO A J 0, hiO A J 1, hiO A J 2, hiO A J 3, hiO A J 4, hiO A J 5, hiO A J 6, hiO A J 7, noO A 0, noO A 1, noO A 2, noO A 3, noO A 4, noO A 5, noO A 6, noO A 7] (.p (.v (.int .u64 (A.cur.getD (a + 1 + i) 0)))) [deO A 1 2 3 4, peO A, cuO A, liO A J 12, thO A 0 0 20, thO A 1 0 20, thO A 2 0 20, thO A 3 0 20, thO A 4 0 20, thO A 5 0 20, thO A 6 0 20, thO A 7 0 20, hiO A J 0, hiO A J 1, hiO A J 2, hiO A J 3, hiO A J 4, hiO A J 5, hiO A J 6, hiO A J 7, noO A 0, noO A 1, noO A 2, noO A 3, noO A 4, noO A 5, noO A 6, noO A 7] := by
 have hw := wO_W ha hi A h.n8
 have := tLoad6 A J k hk h.wf (wO a i : Nat) (by rw [wO_def]; omega)
 rw [hw, onS_t (by rw [h.off]; rfl), show A.load (wO a i : Nat) = A.cur.getD (a + 1 + i) 0 from by
  unfold Dv.load; rw [hw, h.off, if_pos (show (!false && true) = true from rfl), show (((wO a i : Nat) : Int) / 8).toNat = a + 1 + i from by rw [wO_def]; omega]] at this
 exact this
theorem kLat (A : Dv) (J : JT) (k : Nat) (hk : k < 8) (a : Nat) (ha : a < 30) (i : Nat) (hi : i < 28) : ACalls Tryz.prog 35 [.agg [.ifc 43 (.loc (4 + k) 0), .p (eP a)], .p (.v (.int .i64 i))] [deO A 1 2 3 4, peO A, cuO A, liO A J 12, thO A 0 0 20, thO A 1 0 20, thO A 2 0 20, thO A 3 0 20, thO A 4 0 20, thO A 5 0 20, thO A 6 0 20, thO A 7 0 20, hiO A J 0, hiO A J 1, hiO A J 2, hiO A J 3, hiO A J 4, hiO A J 5, hiO A J 6, hiO A J 7, noO A 0, noO A 1, noO A 2, noO A 3, noO A 4, noO A 5, noO A 6, noO A 7] (.p (.v (.int .u64 (wO a i : Nat)))) [deO A 1 2 3 4, peO A, cuO A, liO A J 12, thO A 0 0 20, thO A 1 0 20, thO A 2 0 20, thO A 3 0 20, thO A 4 0 20, thO A 5 0 20, thO A 6 0 20, thO A 7 0 20, hiO A J 0, hiO A J 1, hiO A J 2, hiO A J 3, hiO A J 4, hiO A J 5, hiO A J 6, hiO A J 7, noO A 0, noO A 1, noO A 2, noO A 3, noO A 4, noO A 5, noO A 6, noO A 7] := by
 refine yA (E := E) (fn := Tryz.f35) 12 [.tmp 4] rfl rfl rfl rfl (by decide) rfl rfl ?_
 have e1 := u64w (x := (i : Int)) (by omega) (by omega)
 have e2 := u64w (x := 8 * (i : Int)) (by omega) (by omega)
 have e3 : IntKind.u64.wrap (((wO a 0 : Nat) : Int) + 8 * i) = ((wO a i : Nat) : Int) := by rw [wO_def, wO_def]; exact (u64w (by omega) (by omega)).trans (by omega)
 repeat' (first
  | (with_reducible first | apply zY | apply zT | apply zM | apply zN | apply zO | refine chk_ok (by kernel_rfl) ?_)
  | ((with_reducible first | apply zP | apply zQ | apply zR | apply zL) <;> intro h <;> try (exfalso; first | omega | exact h rfl | (revert h; decide) | (cases h; done)))
  | ((with_reducible show False); omega)
  | ((first | (with_reducible first | apply zW | apply zV | apply zU | apply zS | apply zX | show VX _ _ _ _ _ _ _ | show vstep _ _ _ _ _ | show vskip _ _ _ | show withV _ _) | ((with_reducible show endA _ _ _ _ _ _ _); simp -implicitDefEqProofs only [endA]) | (with_reducible first | refine zB default (by first | omega | (simp only [LN, e1, e2, e3]; omega)) (by first | omega | (simp only [LN, e1, e2, e3]; omega)) ?_ | refine zC default (by first | omega | (simp only [LN, e1, e2, e3]; omega)) ?_ | refine And.intro (by first | decide | omega | assumption | (simp only [LN, e1, e2, e3]; omega)) ?_) | ((with_reducible apply zD); (exact qOff a ha)) | ((with_reducible apply zE); (exact qOff a ha); rfl) | ((with_reducible apply zF); (exact qOff a ha)) | ((with_reducible show pickE _ _ _); first | refine zA _ ⟨by omega, by rfl⟩ ?_ | refine zA _ (by rfl) ?_) | fail); try simp -dsimp -implicitDefEqProofs (maxSteps := 1000000) (disch := first | omega | (simp only [LN, e1, e2, e3]; omega)) only [go_sem, e1, e2, e3])
  | fail)
 all_goals first | omega
theorem lt28 {k : Nat} (h : k < 28) : k = 0 ∨ k = 1 ∨ k = 2 ∨ k = 3 ∨ k = 4 ∨ k = 5 ∨ k = 6 ∨ k = 7 ∨ k = 8 ∨ k = 9 ∨ k = 10 ∨ k = 11 ∨ k = 12 ∨ k = 13 ∨ k = 14 ∨ k = 15 ∨ k = 16 ∨ k = 17 ∨ k = 18 ∨ k = 19 ∨ k = 20 ∨ k = 21 ∨ k = 22 ∨ k = 23 ∨ k = 24 ∨ k = 25 ∨ k = 26 ∨ k = 27 := by omega
def rI (W : Nat → Int) (i j : Nat) : Int := if j < i then W j else 0
theorem rI_0 (W : Nat → Int) (j : Nat) : rI W 0 j = 0 := rfl
theorem rI_n (W : Nat → Int) {i j : Nat} (h : j < i) : rI W i j = W j := if_pos h
theorem rI_o (W : Nat → Int) {i j : Nat} (h : ¬ j < i) : rI W i j = 0 := if_neg h
end Go.Proofs.YtegekpjkbedngaaGreat
namespace Go.Proofs.YtegekpjkbedngaaGreat
open Go Go.Ab
attribute [local irreducible] callK callF loopQ vstep vskip pickE hideP
set_option maxRecDepth 100000
structure Cl (A : Dv) : Prop where
 n8 : A.n = 8
 off : A.off = false
 armed : A.armed = false
 err : ∀ k, A.err k = 0
theorem Cl.rd {A : Dv} (h : Cl A) (w : WF A) (k : Nat) : Rd A k := ⟨w, h.n8, h.off, h.err k⟩
def lineF (st : List (Int × Int)) (r : Nat) : List (Int × Int) := st.filter fun s => decide (s.1 / 64 = r)
structure PS (A : Dv) (ws : List Int) (st : List (Int × Int)) (fl : List Nat) : Prop where
 cl : Cl A
 per : A.per = ws
 cur : A.cur = appL ws st
 hist : ∀ r, r < 8 → A.hist r = lineF st r
 note : ∀ r : Nat, r < 8 → A.note 0 (.int .i64 r) = if r ∈ fl then some (A.done r + (A.hist r).length) else none
 key : ∀ x v, A.note 0 x = some v → ∃ r : Nat, r < 8 ∧ x = .int .i64 r
theorem lineF_app (st : List (Int × Int)) (s : Int × Int) (r : Nat) : lineF (st ++ [s]) r = if s.1 / 64 = r then lineF st r ++ [s] else lineF st r := by
 unfold lineF
 rw [List.filter_append]
 by_cases h : s.1 / 64 = r
 ·rw [if_pos h, List.filter_cons_of_pos (by simpa using h)]; rfl
 ·rw [if_neg h, List.filter_cons_of_neg (by simpa using h)]; simp
theorem cnt_e {A : Dv} (h : Cl A) : A.cnt 0 true = { A with ex := IntKind.u64.wrap (A.ex + 1) } := by
 unfold Dv.cnt; rw [h.off, h.armed]; rfl
theorem cntB_e {A : Dv} (h : Cl A) : A.cntB true = true := by
 unfold Dv.cntB; rw [h.off, h.armed]; rfl
def WOff (o : Int) : Prop := 0 ≤ o ∧ o % 8 = 0 ∧ o < 512
theorem isW_e {A : Dv} (h : Cl A) {o : Int} (ho : WOff o) : A.isW o = true := by
 obtain ⟨h1, h2, h3⟩ := ho
 unfold Dv.isW; rw [h.n8]; simp; omega
theorem isB_e {A : Dv} (h : Cl A) {o : Int} (h3 : o < 512) : A.isB o = true := by
 unfold Dv.isB; rw [h.n8]; simp; omega
theorem store_e {A : Dv} (h : Cl A) {o v : Int} (ho : WOff o) : A.exec (1, o, v) = ({ A with ex := IntKind.u64.wrap (A.ex + 1) } : Dv).put (o / 64).toNat o v := by
 unfold Dv.exec; rw [if_pos rfl]
 unfold Dv.store; rw [isW_e h ho, cntB_e h, if_pos rfl, cnt_e h]
theorem flush_e {A : Dv} (h : Cl A) {o v : Int} (h3 : o < 512) : A.exec (2, o, v) = ({ A with ex := IntKind.u64.wrap (A.ex + 1) } : Dv).noted 0 (o / 64).toNat := by
 unfold Dv.exec; rw [if_neg (by simp), if_pos rfl]
 unfold Dv.flush; rw [isB_e h h3, cntB_e h, if_pos rfl, cnt_e h]
theorem fence_e {A : Dv} (h : Cl A) {o v : Int} : A.exec (3, o, v) = { fencS ({ A with ex := IntKind.u64.wrap (A.ex + 1) } : Dv) 0 (fun _ => True) with note := upd A.note 0 (fun _ => none) } := by
 unfold Dv.exec; rw [if_neg (by simp), if_neg (by simp)]
 unfold Dv.fence; rw [cntB_e h, if_pos rfl, cnt_e h]
theorem appL_app1 (ws : List Int) (st : List (Int × Int)) (s : Int × Int) : appL ws (st ++ [s]) = (appL ws st).set (s.1 / 8).toNat s.2 := by unfold appL; rw [List.foldl_append]; rfl
theorem PS.store {A : Dv} {ws : List Int} {st : List (Int × Int)} {fl : List Nat} (h : PS A ws st fl) {o v : Int} (ho : WOff o) (hf : ∀ r : Nat, r ∈ fl → o / 64 ≠ r) : PS (A.exec (1, o, v)) ws (st ++ [(o, v)]) fl := by
 rw [store_e h.cl ho]
 obtain ⟨h1, h2, h3⟩ := ho
 have hl : ∀ r : Nat, r = (o / 64).toNat ↔ o / 64 = r := fun r => by omega
 have hh : ∀ r : Nat, r < 8 → (({ A with ex := IntKind.u64.wrap (A.ex + 1) } : Dv).put (o / 64).toNat o v).hist r = lineF (st ++ [(o, v)]) r := by
  intro r hr
  rw [put_hist, lineF_app]
  by_cases e : o / 64 = r
  ·rw [if_pos ((hl r).2 e), if_pos e, ← h.hist r hr, (hl r).2 e]
  ·rw [if_neg (fun e' => e ((hl r).1 e')), if_neg e, ← h.hist r hr]
 refine ⟨⟨h.cl.n8, h.cl.off, h.cl.armed, h.cl.err⟩, h.per, ?_, hh, fun r hr => ?_, h.key⟩
 ·show A.cur.set (o / 8).toNat v = _
  rw [appL_app1, h.cur]
 ·have := h.note r hr
  show A.note 0 (.int .i64 r) = if r ∈ fl then some (A.done r + _) else none
  rw [this]
  by_cases e : r ∈ fl
  ·rw [if_pos e, if_pos e, hh r hr, lineF_app, if_neg (hf r e), h.hist r hr]
  ·rw [if_neg e, if_neg e]
theorem PS.flush {A : Dv} {ws : List Int} {st : List (Int × Int)} {fl : List Nat} (h : PS A ws st fl) {o v : Int} (h1 : 0 ≤ o) (h3 : o < 512) : PS (A.exec (2, o, v)) ws st (fl ++ [(o / 64).toNat]) := by
 rw [flush_e h.cl h3]
 refine ⟨⟨h.cl.n8, h.cl.off, h.cl.armed, h.cl.err⟩, h.per, h.cur, h.hist, fun r hr => ?_, fun x v hx => ?_⟩
 ·show (updF (A.note 0) (.int .i64 ((o / 64).toNat : Nat)) (some (A.done (o / 64).toNat + (A.hist (o / 64).toNat).length))) (.int .i64 r) = if r ∈ fl ++ [(o / 64).toNat] then some (A.done r + (A.hist r).length) else none
  unfold updF
  by_cases e : r = (o / 64).toNat
  ·rw [if_pos (by rw [e]), if_pos (by simp [e]), e]
  ·rw [if_neg (by simp only [Value.int.injEq, true_and]; omega), h.note r hr]
   by_cases e2 : r ∈ fl
   ·rw [if_pos e2, if_pos (by simp [e2])]
   ·rw [if_neg e2, if_neg (by simp [e2, e])]
 ·have hx : (updF (A.note 0) (.int .i64 ((o / 64).toNat : Nat)) (some (A.done (o / 64).toNat + (A.hist (o / 64).toNat).length))) x = some v := hx
  unfold updF at hx
  split at hx
  ·rename_i e; exact ⟨(o / 64).toNat, by omega, e⟩
  ·exact h.key x v hx
theorem appL_line (j : Nat) : ∀ (st : List (Int × Int)) (ws ws' : List Int), (∀ s, s ∈ st → 0 ≤ s.1) → ws.length = ws'.length → ws.getD j 0 = ws'.getD j 0 → (appL ws (lineF st (j / 8))).getD j 0 = (appL ws' st).getD j 0
 | [], ws, ws', _, _, h => h
 | s :: st, ws, ws', hs, hl, h => by
  have h0 := hs s List.mem_cons_self
  have ih := appL_line j st
  by_cases e : s.1 / 64 = ((j / 8 : Nat) : Int)
  ·rw [show lineF (s :: st) (j / 8) = s :: lineF st (j / 8) from List.filter_cons_of_pos (by simpa using e)]
   refine ih (ws.set (s.1 / 8).toNat s.2) (ws'.set (s.1 / 8).toNat s.2) (fun x hx => hs x (List.mem_cons_of_mem _ hx)) (by simp [hl]) ?_
   simp only [List.getD_eq_getElem?_getD, List.getElem?_set] at h ⊢
   by_cases e2 : (s.1 / 8).toNat = j
   ·simp only [e2, if_true, hl]
   ·simp only [if_neg e2, h]
  ·rw [show lineF (s :: st) (j / 8) = lineF st (j / 8) from List.filter_cons_of_neg (by simpa using e)]
   refine ih ws (ws'.set (s.1 / 8).toNat s.2) (fun x hx => hs x (List.mem_cons_of_mem _ hx)) (by simp [hl]) ?_
   rw [h]
   simp only [List.getD_eq_getElem?_getD]
   rw [List.getElem?_set_ne (by omega)]
open Classical in
theorem PS.fence {A : Dv} {ws : List Int} {st : List (Int × Int)} {fl : List Nat} (h : PS A ws st fl) (hw : ws.length = 64) {o v : Int} (h0 : ∀ s, s ∈ st → 0 ≤ s.1) (hf : ∀ s, s ∈ st → ∃ r : Nat, r ∈ fl ∧ s.1 / 64 = r) : PS (A.exec (3, o, v)) (appL ws st) [] [] := by
 rw [fence_e h.cl]
 have hk : ∀ r, r < 8 → (A.hist r).length ≤ kF ({ A with ex := IntKind.u64.wrap (A.ex + 1) } : Dv) 0 r := by
  intro r hr
  unfold kF
  rw [show ({ A with ex := IntKind.u64.wrap (A.ex + 1) } : Dv).note 0 (.int .i64 r) = A.note 0 (.int .i64 r) from rfl, h.note r hr]
  by_cases e : r ∈ fl
  ·rw [if_pos e]; show _ ≤ (A.done r + (A.hist r).length - A.done r).toNat; omega
  ·rw [if_neg e]
   have : A.hist r = [] := by
    rw [h.hist r hr, lineF, List.filter_eq_nil_iff]
    intro s hs
    obtain ⟨r', h1, h2⟩ := hf s hs
    simp only [decide_eq_true_eq]
    intro h3
    exact e (by
     rw [h2] at h3
     have : r' = r := by omega
     rw [← this]; exact h1)
   rw [this]; simp
 refine ⟨⟨h.cl.n8, h.cl.off, h.cl.armed, h.cl.err⟩, ?_, ?_, fun r hr => ?_, fun r hr => ?_, fun x v hx => ?_⟩
 ·show (fencS ({ A with ex := IntKind.u64.wrap (A.ex + 1) } : Dv) 0 (fun _ => True)).per = _
  rw [fencS_per]
  simp only [if_true]
  refine list_getD (by rw [contS_len, appL_len, hw]; show 8 * A.n = 64; rw [h.cl.n8]) fun j hj => ?_
  rw [contS_len] at hj
  have hj64 : j < 64 := by have : j < 8 * A.n := hj; rw [h.cl.n8] at this; omega
  rw [contS_get _ _ _ hj]
  show (appL A.per ((A.hist (j / 8)).take (kF _ 0 (j / 8)))).getD j 0 = _
  rw [List.take_of_length_le (hk (j / 8) (by omega)), h.per, h.hist (j / 8) (by omega)]
  exact appL_line j st ws ws h0 rfl rfl
 ·show A.cur = appL (appL ws st) []
  exact h.cur
 ·show (fencS ({ A with ex := IntKind.u64.wrap (A.ex + 1) } : Dv) 0 (fun _ => True)).hist r = []
  rw [(fencS_hd _ _ _ _).1, if_pos trivial]
  exact List.drop_eq_nil_of_le (hk r hr)
 ·show upd A.note 0 (fun _ => none) 0 (.int .i64 r) = _
  simp [upd]
 ·have hx : upd A.note 0 (fun _ => none) 0 x = some v := hx
  simp [upd] at hx
theorem PS.crash {A : Dv} {ws : List Int} {st : List (Int × Int)} {fl : List Nat} (h : PS A ws st fl) (f : Nat → Nat) (j : Nat) (hj : j < 64) : (contS A f).getD j 0 = (appL ws ((lineF st (j / 8)).take (f (j / 8)))).getD j 0 := by
 rw [contS_get _ _ _ (by rw [h.cl.n8]; exact hj), h.per, h.hist (j / 8) (by omega)]
end Go.Proofs.YtegekpjkbedngaaGreat
namespace Go.Proofs.YtegekpjkbedngaaGreat
set_option maxHeartbeats 4000000
set_option maxRecDepth 100000
open Go Go.Ab
attribute [local irreducible] callK callF loopQ vstep vskip pickE hideP
attribute [local go_sem] coO eNd eU deO peO cuO liO thO hiO noO
theorem kRead0 (A : Dv) (J : JT) (hr : Rd A 0) (a : Nat) (ha : a < 30) (W : Nat → Int) (sl : List Nat) (c : Nat) (hn : Nd A a W sl c) : ACalls Tryz.prog 32 [.agg [.ifc 43 (.loc 4 0), .p (eP a)]] [deO A 1 2 3 4, peO A, cuO A, liO A J 12, thO A 0 0 20, thO A 1 0 20, thO A 2 0 20, thO A 3 0 20, thO A 4 0 20, thO A 5 0 20, thO A 6 0 20, thO A 7 0 20, hiO A J 0, hiO A J 1, hiO A J 2, hiO A J 3, hiO A J 4, hiO A J 5, hiO A J 6, hiO A J 7, noO A 0, noO A 1, noO A 2, noO A 3, noO A 4, noO A 5, noO A 6, noO A 7] (.tup [.loc 28 0, .p (.v (.int .i64 0))]) [deO A 1 2 3 4, peO A, cuO A, liO A J 12, thO A 0 0 20, thO A 1 0 20, thO A 2 0 20, thO A 3 0 20, thO A 4 0 20, thO A 5 0 20, thO A 6 0 20, thO A 7 0 20, hiO A J 0, hiO A J 1, hiO A J 2, hiO A J 3, hiO A J 4, hiO A J 5, hiO A J 6, hiO A J 7, noO A 0, noO A 1, noO A 2, noO A 3, noO A 4, noO A 5, noO A 6, noO A 7, coO W sl (c % 4096)] := by
 refine yA (E := E) (fn := Tryz.f32) 94 [.tmp 2, .tmp 3] rfl rfl rfl rfl (by decide) rfl rfl ?_
 have h8 := hr.n8
 have k1 := tSize6 A J 0 (by omega) (by omega)
 have k2 := tErr6 A J 0 (by omega)
 rw [hr.err] at k2
 rw [h8] at k1
 have hp0 := pW_0 (a := a)
 have hsz : ((64 * 8 : Nat) : Int) = 512 := rfl
 rw [hsz] at k1
 have hw := wO_def a 0
 have e288 : IntKind.u64.wrap 288 = 288 := rfl
 have q1 := fun i hi2 => kLat A J 0 (by omega) a ha i hi2
 have q2 : ∀ i, i < 28 → _ := fun i hi2 => tLd A J 0 (by omega) hr ha i hi2
 have kp := kParse sl hn.so c
 have kv := kValid W sl (c % 4096) 512 hn.so hn.w1 hn.w2 hn.w3 hn.srt
 have hpl := perm_lt hn.so c
 have hpc : (perm sl c : Int) / 4503599627370496 = ((c % 4096 : Nat) : Int) := by rw [← perm_c hn.so c]; rfl
 have hw0 := hn.w0
 rw [← hw0] at kp hpc
 clear hr
 repeat' (first
  | (with_reducible first | apply zY | apply zT | apply zM | apply zN | apply zO | refine chk_ok (by kernel_rfl) ?_)
  | ((with_reducible first | apply zP | apply zQ | apply zR | apply zL) <;> intro h <;> try (exfalso; first | omega | exact h rfl | (revert h; decide) | (cases h; done)))
  | ((with_reducible show False); omega)
  | ((first | (with_reducible first | apply zW | apply zV | apply zU | apply zS | apply zX | show VX _ _ _ _ _ _ _ | show vstep _ _ _ _ _ | show vskip _ _ _ | show withV _ _) | ((with_reducible show endA _ _ _ _ _ _ _); simp -implicitDefEqProofs only [endA]) | (with_reducible first | refine zB default (by first | omega | (simp only [LN, eP, hp0, e288]; omega)) (by first | omega | (simp only [LN, eP, hp0, e288]; omega)) ?_ | refine zC default (by first | omega | (simp only [LN, eP, hp0, e288]; omega)) ?_ | refine And.intro (by first | decide | omega | assumption | (simp only [LN, eP, hp0, e288]; omega)) ?_) | ((with_reducible apply zD); (exact qOff a ha)) | ((with_reducible apply zE); (exact qOff a ha); rfl) | ((with_reducible apply zF); (exact qOff a ha)) | (with_reducible first | apply zG | apply zH | apply zI | apply hidePI_own) | ((with_reducible apply zJ); (first | exact k1 | exact k2 | fail)) | ((with_reducible show pickE _ _ _); first | refine zA _ ⟨by omega, by rfl⟩ ?_ | refine zA _ (by rfl) ?_) | fail); try simp -dsimp -implicitDefEqProofs (maxSteps := 1000000) (disch := first | omega | (simp only [LN, eP, hp0, e288]; omega)) only [go_sem, eP, hp0, e288])
  | fail)
 all_goals try omega
 refine r_loopA (α := Nat) [1, 4, 6] (fun i b => [(40, aI i)]) (fun i b => [(6, .var [.p (.v (.int .u64 (rI W i 0))), .p (.v (.int .u64 (rI W i 1))), .p (.v (.int .u64 (rI W i 2))), .p (.v (.int .u64 (rI W i 3))), .p (.v (.int .u64 (rI W i 4))), .p (.v (.int .u64 (rI W i 5))), .p (.v (.int .u64 (rI W i 6))), .p (.v (.int .u64 (rI W i 7))), .p (.v (.int .u64 (rI W i 8))), .p (.v (.int .u64 (rI W i 9))), .p (.v (.int .u64 (rI W i 10))), .p (.v (.int .u64 (rI W i 11))), .p (.v (.int .u64 (rI W i 12))), .p (.v (.int .u64 (rI W i 13))), .p (.v (.int .u64 (rI W i 14))), .p (.v (.int .u64 (rI W i 15))), .p (.v (.int .u64 (rI W i 16))), .p (.v (.int .u64 (rI W i 17))), .p (.v (.int .u64 (rI W i 18))), .p (.v (.int .u64 (rI W i 19))), .p (.v (.int .u64 (rI W i 20))), .p (.v (.int .u64 (rI W i 21))), .p (.v (.int .u64 (rI W i 22))), .p (.v (.int .u64 (rI W i 23))), .p (.v (.int .u64 (rI W i 24))), .p (.v (.int .u64 (rI W i 25))), .p (.v (.int .u64 (rI W i 26))), .p (.v (.int .u64 (rI W i 27))), .p (.v (.slice none 0 0)), .p (.v (.int .u64 0))])]) (fun i => []) (fun i => i ≤ 28) (fun i => 28 - i) (0) ?h0_1 ?hs0_1 ?I_1 ?hI_1 ?round_1
 case hI_1 => intro x; (simp -dsimp -implicitDefEqProofs (maxSteps := 1000000) (disch := first | omega | (simp only [LN]; omega)) only [go_sem]) <;> exact rfl
 case hs0_1 => refine wk_auto ?_; (simp -dsimp -implicitDefEqProofs (maxSteps := 1000000) (disch := first | omega | (simp only [LN, rI_0]; omega)) only [go_sem, rI_0]) <;> (try omega)
 case h0_1 => exact Nat.zero_le _
 case round_1 =>
  intro i hi
  have w3 : IntKind.i64.wrap ((i : Int) + 1) = ((i + 1 : Nat) : Int) := by rw [IntKind.wrap_i64]; push_cast; omega
  by_cases hi2 : i < 28
  ·have q1 := q1 i hi2
   have q2 := q2 i hi2
   rw [hn.ld i hi2] at q2
   repeat' (first
    | (with_reducible first | apply zY | apply zT | apply zM | apply zN | apply zO | refine chk_ok (by kernel_rfl) ?_)
    | ((with_reducible first | apply zP | apply zQ | apply zR | apply zL) <;> intro h <;> try (exfalso; first | omega | exact h rfl | (revert h; decide) | (cases h; done)))
    | ((with_reducible show False); omega)
    | ((first | (with_reducible first | apply zW | apply zV | apply zU | apply zS | apply zX | show VX _ _ _ _ _ _ _ | show vstep _ _ _ _ _ | show vskip _ _ _ | show withV _ _) | ((with_reducible show endA _ _ _ _ _ _ _); simp -implicitDefEqProofs only [endA]) | (with_reducible first | refine zB default (by first | omega | (simp only [LN]; omega)) (by first | omega | (simp only [LN]; omega)) ?_ | refine zC default (by first | omega | (simp only [LN]; omega)) ?_ | refine And.intro (by first | decide | omega | assumption | (simp only [LN]; omega)) ?_) | (with_reducible first | apply zG | apply zH | apply zI | apply hidePI_own) | ((with_reducible apply zJ); (first | exact q1 | exact q2 | fail)) | ((with_reducible show pickE _ _ _); first | refine zA _ ⟨by omega, by rfl⟩ ?_ | refine zA _ (by rfl) ?_) | fail); try simp -dsimp -implicitDefEqProofs (maxSteps := 1000000) (disch := first | omega | (simp only [LN]; omega)) only [go_sem])
    | fail)
   have hlt := @rI_n W
   have hge := @rI_o W
   have hi1 : i * 1 = i := Nat.mul_one i
   obtain ⟨i2, he⟩ : ∃ i2, i2 = i + 1 := ⟨_, rfl⟩
   rcases lt28 hi2 with rfl | rfl | rfl | rfl | rfl | rfl | rfl | rfl | rfl | rfl | rfl | rfl | rfl | rfl | rfl | rfl | rfl | rfl | rfl | rfl | rfl | rfl | rfl | rfl | rfl | rfl | rfl | rfl
   all_goals
    simp -dsimp -implicitDefEqProofs (maxSteps := 1000000) (disch := first | omega | (simp only [LN]; omega)) only [go_sem]
    repeat' (first
     | (with_reducible first | apply zY | apply zT | apply zM | apply zN | apply zO | refine chk_ok (by kernel_rfl) ?_)
     | ((with_reducible first | apply zP | apply zQ | apply zR | apply zL) <;> intro h <;> try (exfalso; first | omega | exact h rfl | (revert h; decide) | (cases h; done)))
     | ((with_reducible show False); omega)
     | ((first | (with_reducible first | apply zW | apply zV | apply zU | apply zS | apply zX | show VX _ _ _ _ _ _ _ | show vstep _ _ _ _ _ | show vskip _ _ _ | show withV _ _) | ((with_reducible show endA _ _ _ _ _ _ _); simp -implicitDefEqProofs only [endA]) | (with_reducible first | refine zB default (by first | omega | (simp only [LN]; omega)) (by first | omega | (simp only [LN]; omega)) ?_ | refine zC default (by first | omega | (simp only [LN]; omega)) ?_ | refine And.intro (by first | decide | omega | assumption | (simp only [LN]; omega)) ?_) | ((with_reducible show pickE _ _ _); first | refine zA _ ⟨by omega, by rfl⟩ ?_ | refine zA _ (by rfl) ?_) | fail); try simp -dsimp -implicitDefEqProofs (maxSteps := 1000000) (disch := first | omega | (simp only [LN]; omega)) only [go_sem])
     | fail)
    all_goals first | omega | ((refine zZ (i2) ?_ ?_ ?_; (omega); (show _ < _; omega); (simp -dsimp -implicitDefEqProofs (maxSteps := 1000000) (disch := first | omega | (simp only [LN, w3, he, hlt, hge]; omega)) only [go_sem, w3, he, hlt, hge]; try trivial)))
  ·obtain rfl : i = 28 := by omega
   have hlt := fun j (h : j < 28) => @rI_n W 28 j h
   repeat' (first
    | (with_reducible first | apply zY | apply zT | apply zM | apply zN | apply zO | refine chk_ok (by kernel_rfl) ?_)
    | ((with_reducible first | apply zP | apply zQ | apply zR | apply zL) <;> intro h <;> try (exfalso; first | omega | exact h rfl | (revert h; decide) | (cases h; done)))
    | ((with_reducible show False); omega)
    | ((first | (with_reducible first | apply zW | apply zV | apply zU | apply zS | apply zX | show VX _ _ _ _ _ _ _ | show vstep _ _ _ _ _ | show vskip _ _ _ | show withV _ _) | ((with_reducible show endA _ _ _ _ _ _ _); simp -implicitDefEqProofs only [endA]) | (with_reducible first | refine zB default (by first | omega | (simp only [LN, hlt, hpc]; omega)) (by first | omega | (simp only [LN, hlt, hpc]; omega)) ?_ | refine zC default (by first | omega | (simp only [LN, hlt, hpc]; omega)) ?_ | refine And.intro (by first | decide | omega | assumption | (simp only [LN, hlt, hpc]; omega)) ?_) | ((with_reducible apply zD); (exact kp)) | ((with_reducible apply zE); (exact kp); rfl) | ((with_reducible apply zF); (exact kp)) | (with_reducible first | apply zG | apply zH | apply zI | apply hidePI_own) | ((with_reducible apply zJ); (first | exact k2 | exact kv | fail)) | ((with_reducible show pickE _ _ _); first | refine zA _ ⟨by omega, by rfl⟩ ?_ | refine zA _ (by rfl) ?_) | fail); try simp -dsimp -implicitDefEqProofs (maxSteps := 1000000) (disch := first | omega | (simp only [LN, hlt, hpc]; omega)) only [go_sem, hlt, hpc])
    | fail)
   all_goals first | omega
end Go.Proofs.YtegekpjkbedngaaGreat
