/- Contracts of functions of this program, and the plain facts that they rest on. No conditions. -/
import Derived.Test.YtlkffmmgcoiniaaDoorD15
set_option linter.unusedSimpArgs false
set_option linter.unusedVariables false
namespace Go.Proofs.YtlkffmmgcoiniaaDoor
open Go Go.Ab
attribute [local irreducible] callK callF loopQ vstep vskip pickE hideP
set_option maxRecDepth 100000
attribute [local go_sem] eF rF eS eP eX rX eQ eL eN eW
/-- A nonempty view is not nil. -/
theorem acalls_view {P : Program} {g : FuncId} {sz : Nat} {es : List PV} {L : List Ob} {r : AV} {L' : List Ob} (h0 : es ≠ []) (h : ACalls P g [.p (.nview sz es)] L r L') : ACalls P g [.p (.view sz es)] L r L' := by
  obtain ⟨h1, h2, h3⟩ := h
  refine ⟨h1, h2, fun Z lb w vals ho hv => h3 Z lb w vals ho ?_⟩
  simp only [AReps, ARep] at hv ⊢
  obtain ⟨u, us, e, hu, e2⟩ := hv
  refine ⟨u, us, e, ?_, e2⟩
  rcases view_cases hu with ⟨e3, _⟩ | h4
  · exact absurd e3 h0
  · exact h4
set_option maxRecDepth 100000 in
set_option maxHeartbeats 4000000 in
theorem a49n (l : List Nat) (hl : l.length ≤ 1000000) (h0 : 0 < l.length) : ACalls Tryd.prog 49 [.p (.nview 1 (l.map eW))] [] (.sl 0 1 0 l.length) [.arr 1 (l.map eW)] := by
  refine acalls_of (E := E) (fn := Tryd.f49) 8 [.tmp 2] rfl rfl rfl rfl (by decide) rfl rfl ?_
  repeat' (first
    | (with_reducible first | refine r_seq ?_ | refine r_block ?_ | refine fork_not ?_ | refine fork_and ?_ | refine fork_or ?_ | refine chk_ok (by kernel_rfl) ?_)
    | ((with_reducible first | refine fork_dec ?_ ?_ | refine fork_eq ?_ ?_ | refine fork_ne ?_ ?_ | refine fork_intro ?_ ?_) <;> intro h <;> try (exfalso; first | omega | exact h rfl | (revert h; decide) | (cases h; done)))
    | ((with_reducible show False); omega)
    | ((first | (with_reducible first | refine r_exit ?_ | refine r_skip ?_ | refine r_cond ?_ | refine r_region ?_ | show VX _ _ _ _ _ _ _ | show vstep _ _ _ _ _ | show vskip _ _ _ | show withV _ _) | ((with_reducible show endA _ _ _ _ _ _ _); simp -implicitDefEqProofs only [endA])); simp -dsimp -implicitDefEqProofs (maxSteps := 1000000) (disch := first | omega | (simp only [LN]; omega)) only [go_sem, Int.reduceToNat, Int.reducePow, Nat.reducePow, Int.reduceAdd, Int.reduceMul, Int.reduceSub, Int.reduceNeg, Nat.reduceAdd, Nat.reduceMul, Nat.reduceSub, Nat.reduceEqDiff, Nat.reduceLT, Nat.reduceLeDiff])
    | ((first | (with_reducible refine r_ret ?_) | (with_reducible refine pick_viewG default (by first | omega | (simp only [LN]; omega)) (by first | omega | (simp only [LN]; omega)) ?_) | (with_reducible refine pick_own default (by first | omega | (simp only [LN]; omega)) ?_) | (with_reducible refine And.intro (by first | decide | omega | assumption | (simp only [LN]; omega)) ?_) | ((with_reducible show pickE _ _ _); first | refine pickE_intro _ ⟨by omega, by rfl⟩ ?_ | refine pickE_intro _ (by rfl) ?_) | fail); try simp -dsimp -implicitDefEqProofs (maxSteps := 1000000) (disch := first | omega | (simp only [LN]; omega)) only [go_sem, Int.reduceToNat, Int.reducePow, Nat.reducePow, Int.reduceAdd, Int.reduceMul, Int.reduceSub, Int.reduceNeg, Nat.reduceAdd, Nat.reduceMul, Nat.reduceSub, Nat.reduceEqDiff, Nat.reduceLT, Nat.reduceLeDiff])
    | fail)
  all_goals first | rfl | omega | trace_state
theorem a49 (l : List Nat) (hl : l.length ≤ 1000000) (h0 : 0 < l.length) : ACalls Tryd.prog 49 [.p (.view 1 (l.map eW))] [] (.sl 0 1 0 l.length) [.arr 1 (l.map eW)] :=
  acalls_view (by cases l with | nil => simp at h0 | cons _ _ => simp) (a49n l hl h0)
/-- Words. -/
def U64 (ws : List Nat) : Prop := ∀ i, ws.getD i default < 18446744073709551616
set_option maxRecDepth 100000 in
set_option maxHeartbeats 4000000 in
theorem c42 (f : F) (W s w : Nat) (ws : List Nat) (i : Nat) (hu : U64 ws) (hw : WOk w) (hs : s + w ≤ 64) (hW : W ≤ 1000000) (hi : i ≤ 1000000) (hp : (posK w W s i).1 < ws.length) (hq : (posK w W s i).2 + w ≤ 64) : PCalls Tryd.prog 42 [eS ⟨f, W, s, w⟩, .view 1 (ws.map eW), .v (.int .i64 i)] (.v (.int .u64 (getB (ws.getD (posK w W s i).1 default) (posK w W s i).2 w))) := by
  refine pcalls_facts ⟨_, rfl, rfl, by decide⟩ fun hf => ?_
  simp only [go_sem, big] at hf
  refine pcalls_of (E := E) (fn := Tryd.f42) 23 [.tmp 6] rfl rfl rfl rfl (by decide) rfl ?_
  repeat' (first
    | (with_reducible first | refine r_seq ?_ | refine r_block ?_ | refine fork_not ?_ | refine fork_and ?_ | refine fork_or ?_ | refine chk_ok (by kernel_rfl) ?_)
    | ((with_reducible first | refine fork_dec ?_ ?_ | refine fork_eq ?_ ?_ | refine fork_ne ?_ ?_ | refine fork_intro ?_ ?_) <;> intro h <;> try (exfalso; first | omega | exact h rfl | (revert h; decide) | (cases h; done)))
    | ((with_reducible show False); omega)
    | ((first | (with_reducible first | refine r_exit ?_ | refine r_skip ?_ | refine r_cond ?_ | refine r_region ?_ | show VX _ _ _ _ _ _ _ | show vstep _ _ _ _ _ | show vskip _ _ _ | show withV _ _) | ((with_reducible show endA _ _ _ _ _ _ _); simp -implicitDefEqProofs only [endA])); simp -dsimp -implicitDefEqProofs (maxSteps := 1000000) (disch := first | omega | (simp only [LN]; omega)) only [go_sem, Int.reduceToNat, Int.reducePow, Nat.reducePow, Int.reduceAdd, Int.reduceMul, Int.reduceSub, Int.reduceNeg, Nat.reduceAdd, Nat.reduceMul, Nat.reduceSub, Nat.reduceEqDiff, Nat.reduceLT, Nat.reduceLeDiff])
    | ((first | (with_reducible refine r_ret ?_) | (with_reducible refine pick_viewG default (by first | omega | (simp only [LN]; omega)) (by first | omega | (simp only [LN]; omega)) ?_) | (with_reducible refine pick_own default (by first | omega | (simp only [LN]; omega)) ?_) | (with_reducible refine And.intro (by first | decide | omega | assumption | (simp only [LN]; omega)) ?_) | ((with_reducible apply callK_pure); (first | exact c41w f W s w i hw hs hW hi | exact c48 _ _ w (hu _) hw hq | fail)) | ((with_reducible apply callF_lend); (first | exact c41w f W s w i hw hs hW hi | exact c48 _ _ w (hu _) hw hq | fail); rfl) | ((with_reducible apply callF_go); (first | exact c41w f W s w i hw hs hW hi | exact c48 _ _ w (hu _) hw hq | fail)) | ((with_reducible show pickE _ _ _); first | refine pickE_intro _ ⟨by omega, by rfl⟩ ?_ | refine pickE_intro _ (by rfl) ?_) | fail); try simp -dsimp -implicitDefEqProofs (maxSteps := 1000000) (disch := first | omega | (simp only [LN]; omega)) only [go_sem, Int.reduceToNat, Int.reducePow, Nat.reducePow, Int.reduceAdd, Int.reduceMul, Int.reduceSub, Int.reduceNeg, Nat.reduceAdd, Nat.reduceMul, Nat.reduceSub, Nat.reduceEqDiff, Nat.reduceLT, Nat.reduceLeDiff])
    | fail)
  all_goals first | rfl | omega | trace_state
set_option maxRecDepth 100000 in
set_option maxHeartbeats 4000000 in
theorem a44 (f : F) (W s w : Nat) (ws : List Nat) (i v : Nat) (hu : U64 ws) (hv : v < 18446744073709551616) (hw : WOk w) (hs : s + w ≤ 64) (hW : W ≤ 1000000) (hi : i ≤ 1000000) (hp : (posK w W s i).1 < ws.length) (hq : (posK w W s i).2 + w ≤ 64) : ACalls Tryd.prog 44 [.p (eS ⟨f, W, s, w⟩), .sl 0 1 0 ws.length, .p (.v (.int .i64 i)), .p (.v (.int .u64 v))] [.arr 1 (ws.map eW)] (.p (.tup [])) [.arr 1 ((ws.set (posK w W s i).1 (setB (ws.getD (posK w W s i).1 default) (posK w W s i).2 w v)).map eW)] := by
  refine acalls_of (E := E) (fn := Tryd.f44) 28 [] rfl rfl rfl rfl (by decide) rfl rfl ?_
  repeat' (first
    | (with_reducible first | refine r_seq ?_ | refine r_block ?_ | refine fork_not ?_ | refine fork_and ?_ | refine fork_or ?_ | refine chk_ok (by kernel_rfl) ?_)
    | ((with_reducible first | refine fork_dec ?_ ?_ | refine fork_eq ?_ ?_ | refine fork_ne ?_ ?_ | refine fork_intro ?_ ?_) <;> intro h <;> try (exfalso; first | omega | exact h rfl | (revert h; decide) | (cases h; done)))
    | ((with_reducible show False); omega)
    | ((first | (with_reducible first | refine r_exit ?_ | refine r_skip ?_ | refine r_cond ?_ | refine r_region ?_ | show VX _ _ _ _ _ _ _ | show vstep _ _ _ _ _ | show vskip _ _ _ | show withV _ _) | ((with_reducible show endA _ _ _ _ _ _ _); simp -implicitDefEqProofs only [endA])); simp -dsimp -implicitDefEqProofs (maxSteps := 1000000) (disch := first | omega | (simp only [LN]; omega)) only [go_sem, Int.reduceToNat, Int.reducePow, Nat.reducePow, Int.reduceAdd, Int.reduceMul, Int.reduceSub, Int.reduceNeg, Nat.reduceAdd, Nat.reduceMul, Nat.reduceSub, Nat.reduceEqDiff, Nat.reduceLT, Nat.reduceLeDiff])
    | ((first | (with_reducible refine r_ret ?_) | (with_reducible refine pick_viewG default (by first | omega | (simp only [LN]; omega)) (by first | omega | (simp only [LN]; omega)) ?_) | (with_reducible refine pick_own default (by first | omega | (simp only [LN]; omega)) ?_) | (with_reducible refine And.intro (by first | decide | omega | assumption | (simp only [LN]; omega)) ?_) | ((with_reducible apply callK_pure); (first | exact c41w f W s w i hw hs hW hi | exact c57 _ _ w _ (hu _) hv hw hq | fail)) | ((with_reducible apply callF_lend); (first | exact c41w f W s w i hw hs hW hi | exact c57 _ _ w _ (hu _) hv hw hq | fail); rfl) | ((with_reducible apply callF_go); (first | exact c41w f W s w i hw hs hW hi | exact c57 _ _ w _ (hu _) hv hw hq | fail)) | ((with_reducible show pickE _ _ _); first | refine pickE_intro _ ⟨by omega, by rfl⟩ ?_ | refine pickE_intro _ (by rfl) ?_) | fail); try simp -dsimp -implicitDefEqProofs (maxSteps := 1000000) (disch := first | omega | (simp only [LN]; omega)) only [go_sem, Int.reduceToNat, Int.reducePow, Nat.reducePow, Int.reduceAdd, Int.reduceMul, Int.reduceSub, Int.reduceNeg, Nat.reduceAdd, Nat.reduceMul, Nat.reduceSub, Nat.reduceEqDiff, Nat.reduceLT, Nat.reduceLeDiff])
    | fail)
  all_goals first | rfl | omega | (refine .inl ?_; rw [List.map_set]; rfl) | trace_state
end Go.Proofs.YtlkffmmgcoiniaaDoor
