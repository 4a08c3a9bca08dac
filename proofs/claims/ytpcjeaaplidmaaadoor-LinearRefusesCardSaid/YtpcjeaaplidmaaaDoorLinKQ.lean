/- Contracts of functions of this program, and the plain facts that they rest on. No conditions. -/
import Derived.Test.YtpcjeaaplidmaaaDoorLinP2Q
import Derived.Test.YtpcjeaaplidmaaaDoorLinN2Q
import Derived.Test.YtpcjeaaplidmaaaDoorLinHQ
set_option linter.unusedSimpArgs false
set_option linter.unusedVariables false
namespace Go.Proofs.YtpcjeaaplidmaaaDoor
open Go Go.Ab
attribute [local irreducible] callK callF loopQ vstep vskip pickE hideP
open Go.RowKit
set_option maxRecDepth 100000
attribute [local go_sem] Hi.eC Hi.rC Hi.eE Hi.hc Hi.hP Hi.hW Hi.oW Hi.oP Hi.sR Hi.oH Hi.newC eN pcells_L
def X1 : Hi.H := Hi.invH Hi.h0 0 5 7 1 0
def X2 : Hi.H := Hi.invH X1 1 4 7 0 0
def X3 : Hi.H := Hi.retH X2 1 0 false 5
def X4 : Hi.H := Hi.crashH X3
theorem q1 : ACalls Tryd.prog 14 [.loc 0 0, .p (.v (.int .i64 0)), .p (Hi.oP 5 7 1 0)] [Hi.oH Hi.h0 1 2, .arr 2 (Hi.h0.ev.map Hi.eE), .arr 11 (Hi.h0.cl.map Hi.eC)] (.p (.v (.int .i64 0))) [Hi.oH X1 3 4, .dead, .dead, .arr 2 (X1.ev.map Hi.eE), .arr 11 (X1.cl.map Hi.eC)] :=
 Hi.a18o Hi.h0 0 5 7 1 0 (by decide) (by decide) rfl (by decide) (by decide)
theorem q2 : ACalls Tryd.prog 14 [.loc 0 0, .p (.v (.int .i64 1)), .p (Hi.oP 4 7 0 0)] [Hi.oH X1 1 2, .arr 2 (X1.ev.map Hi.eE), .arr 11 (X1.cl.map Hi.eC)] (.p (.v (.int .i64 1))) [Hi.oH X2 3 4, .dead, .dead, .arr 2 (X2.ev.map Hi.eE), .arr 11 (X2.cl.map Hi.eC)] :=
 Hi.a18o X1 1 4 7 0 0 (by decide) (by decide) rfl (by decide) (by decide)
theorem q3 : ACalls Tryd.prog 15 [.loc 0 0, .p (.v (.int .i64 1)), .p (Hi.sR 0 false 5)] [Hi.oH X2 1 2, .arr 2 (X2.ev.map Hi.eE), .arr 11 (X2.cl.map Hi.eC)] (.p (.v (.bool true))) [Hi.oH X3 3 2, .dead, .arr 11 (X3.cl.map Hi.eC), .arr 2 (X3.ev.map Hi.eE)] :=
 Hi.a20o X2 1 0 false 5 (by unfold Hi.pendM; decide) (by decide) (by decide) (by decide) (by decide)
theorem q4 : ACalls Tryd.prog 21 [.loc 0 0] [Hi.oH X3 1 2, .arr 2 (X3.ev.map Hi.eE), .arr 11 (X3.cl.map Hi.eC)] (.p (.tup [])) [Hi.oH X4 3 2, .dead, .arr 11 (X4.cl.map Hi.eC), .arr 2 (X4.ev.map Hi.eE)] :=
 Hi.a17 X3 (by decide) (by decide) (by decide)
theorem x4_0 : checkE 2 X4.cl = 0 := by decide +kernel
theorem x4_r : ∀ i, i < X4.cl.length → RngO (opC (X4.cl.getD i default)) := by
 intro i hi
 have hi : i < 2 := hi
 rcases (by omega : i = 0 ∨ i = 1) with rfl | rfl <;> (unfold RngO U64; decide +kernel)
theorem x4_p : (prefR 2 X4.cl).2.acc = [[], [(7, 1)]] := by decide +kernel
theorem x4_c : (checkR 2 X4.cl [(7, 1)]).1 = true ∧ (checkR 2 X4.cl [(7, 1)]).2.es.take (checkR 2 X4.cl [(7, 1)]).2.n = [1, 0] := by decide +kernel
theorem x4_s : preL 2 X4.cl = [[], [(7, 1)]] := by
 unfold preL
 rw [x4_p, ← srtL_uni (A := [[], [(7, 1)]]) (List.Perm.refl _) (by decide)]
 rfl
theorem q5 : ACalls Tryd.prog 20 [.p (.v (.int .u8 2)), .loc 0 0] [Hi.oH X4 1 2, .arr 2 (X4.ev.map Hi.eE), .arr 11 (X4.cl.map Hi.eC)] (.p (.tup [.view 1 [eL [], eL [(7, 1)]], .v (.int .i64 0)])) [Hi.oH X4 1 2, .arr 2 (X4.ev.map Hi.eE), .arr 11 (X4.cl.map Hi.eC)] := by
 have := o20g 2 X4 x4_0 x4_r
 rw [x4_s] at this; exact this
theorem q6 : ACalls Tryd.prog 16 [.p (.v (.int .u8 2)), .loc 0 0, .sl 1 2 0 1] [Hi.oH X4 2 3, .arr 2 [.agg [.v (.int .u64 7), .v (.int .u64 1)]], .arr 2 (X4.ev.map Hi.eE), .arr 11 (X4.cl.map Hi.eC)] (.p (.tup [.view 1 [.v (.int .i64 1), .v (.int .i64 0)], .v (.bool true), .v (.int .i64 0)])) [Hi.oH X4 2 3, .arr 2 [.agg [.v (.int .u64 7), .v (.int .u64 1)]], .arr 2 (X4.ev.map Hi.eE), .arr 11 (X4.cl.map Hi.eC)] := by
 have := o16s 2 X4 [(7, 1)] (by decide) x4_0 x4_r
 rw [x4_c.1, if_pos rfl, x4_c.2] at this; exact this
attribute [local irreducible] X1 X2 X3 X4
set_option maxRecDepth 100000 in
set_option maxHeartbeats 4000000 in
theorem c6  : PCalls Tryd.prog 6 [] (.v (.bool true)) := by
 refine pcalls_of (E := E) (fn := Tryd.f6) 77 [.tmp 0] rfl rfl rfl rfl (by decide) rfl ?_
 repeat' (first
  | (with_reducible first | refine r_seq ?_ | refine r_block ?_ | refine fork_not ?_ | refine fork_and ?_ | refine fork_or ?_ | refine chk_ok (by kernel_rfl) ?_)
  | ((with_reducible first | refine fork_dec ?_ ?_ | refine fork_eq ?_ ?_ | refine fork_ne ?_ ?_ | refine fork_intro ?_ ?_) <;> intro h)
  | ((with_reducible show False); omega)
  | ((first | (with_reducible first | refine r_exit ?_ | refine r_skip ?_ | refine r_cond ?_ | refine r_region ?_ | refine r_ret ?_ | show VX _ _ _ _ _ _ _ | show vstep _ _ _ _ _ | show vskip _ _ _ | show withV _ _) | ((with_reducible show endA _ _ _ _ _ _ _); simp -implicitDefEqProofs only [endA]) | (with_reducible first | refine pick_viewG default (by first | omega | (simp only [LN, eL]; omega)) (by first | omega | (simp only [LN, eL]; omega)) ?_ | refine pick_own default (by first | omega | (simp only [LN, eL]; omega)) ?_ | refine And.intro (by first | decide | omega | assumption | (simp only [LN, eL]; omega)) ?_) | (with_reducible first | apply callK_lent | apply callF_lent | apply hideP_own) | ((with_reducible apply callA_go); (first | exact Hi.a10 | exact q1 | exact q2 | exact q3 | exact q4 | exact q5 | exact q6 | fail)) | ((with_reducible show pickE _ _ _); first | refine pickE_intro _ ⟨by omega, by rfl⟩ ?_ | refine pickE_intro _ (by rfl) ?_) | fail); try simp -dsimp -implicitDefEqProofs (maxSteps := 1000000) (disch := first | omega | (simp only [LN, eL]; omega)) only [go_sem, eL])
  | fail)
 all_goals first | rfl
end Go.Proofs.YtpcjeaaplidmaaaDoor