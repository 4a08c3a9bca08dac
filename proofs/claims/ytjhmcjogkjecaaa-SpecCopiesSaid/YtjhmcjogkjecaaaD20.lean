/- Contracts of functions of this program, and the plain facts that they rest on. No conditions. -/
import Derived.Test.YtjhmcjogkjecaaaD19
set_option linter.unusedSimpArgs false
set_option linter.unusedVariables false
namespace Go.Proofs.Ytjhmcjogkjecaaa
open Go Go.Ab
attribute [local irreducible] callK callF loopQ vstep vskip pickE hideP
theorem AReps.split {Z : Nat → Prop} {lb : Lb} {w : World} : ∀ {xs ys : List AV} {vs : List Value}, AReps Z lb w (xs ++ ys) vs → ∃ us us', vs = us ++ us' ∧ AReps Z lb w xs us ∧ AReps Z lb w ys us'
  | [], ys, vs, h => ⟨[], vs, rfl, by simp [AReps], h⟩
  | x :: xs, ys, vs, h => by
    simp only [List.cons_append, AReps] at h
    obtain ⟨u, us', rfl, h2, h3⟩ := h
    obtain ⟨a, b, rfl, h4, h5⟩ := AReps.split h3
    exact ⟨u :: a, b, rfl, by simp only [AReps]; exact ⟨u, a, rfl, h2, h4⟩, h5⟩
/-- A view with elements is not nil. -/
theorem acalls_ne {P : Program} {f : FuncId} {pre post : List AV} {sz : Nat} {es : List PV} {L L' : List Ob} {r : AV} (he : es ≠ []) (h : ACalls P f (pre ++ .p (.nview sz es) :: post) L r L') : ACalls P f (pre ++ .p (.view sz es) :: post) L r L' := by
  refine ⟨h.1, h.2.1, fun Z lb w vals ho hr => h.2.2 Z lb w vals ho ?_⟩
  obtain ⟨us, us', rfl, h1, h2⟩ := AReps.split hr
  simp only [AReps] at h2
  obtain ⟨u, v, rfl, h3, h4⟩ := h2
  refine AReps.append h1 ?_
  simp only [AReps]
  refine ⟨u, v, rfl, ?_, h4⟩
  simp only [ARep] at h3 ⊢
  rcases view_cases h3 with ⟨h5, _⟩ | h5
  · exact absurd h5 he
  · exact h5
/-! Lists that the caller owns. -/
set_option maxRecDepth 100000 in
set_option maxHeartbeats 4000000 in
theorem o32s (l : List (Int × Int)) (h : 0 < l.length ∧ l.length ≤ 100000) : ACalls Try.prog 32 [.sl 0 2 0 l.length] [.arr 2 (l.map eP)] (.p (.view 2 (l.map eP))) [.arr 2 (l.map eP)] := by
  refine acalls_of (E := E) (fn := Try.f32) 8 [.tmp 2] rfl rfl rfl rfl (by decide) rfl rfl ?_
  repeat' (first
    | (with_reducible first | refine r_seq ?_ | refine r_block ?_ | refine fork_not ?_ | refine fork_and ?_ | refine fork_or ?_ | refine chk_ok (by kernel_rfl) ?_)
    | ((with_reducible first | refine fork_dec (fun h => ?_) (fun h => ?_) | refine fork_eq (fun h => ?_) (fun h => ?_) | refine fork_ne (fun h => ?_) (fun h => ?_) | refine fork_intro (fun h => ?_) (fun h => ?_)))
    | ((with_reducible first | refine r_ret ?_ | refine r_exit ?_ | refine r_skip ?_ | refine r_cond ?_ | refine r_region ?_ | show VX _ _ _ _ _ _ _ | show vstep _ _ _ _ _ | show vskip _ _ _ | show withV _ _); simp -dsimp -implicitDefEqProofs (maxSteps := 1000000) (disch := first | omega | (simp only [List.length_append, List.length_map, List.length_take, List.length_drop, List.length_cons, List.length_nil, Nat.zero_add]; omega)) only [go_sem, Int.reduceToNat, Int.reducePow, Nat.reducePow, Int.reduceAdd, Int.reduceMul, Int.reduceSub, Int.reduceNeg, Nat.reduceAdd, Nat.reduceMul, Nat.reduceSub, Nat.reduceEqDiff, Nat.reduceLT, Nat.reduceLeDiff])
    | ((with_reducible show False); omega)
    | ((first | (with_reducible refine pick_viewG default (by first | omega | (simp only [List.length_append, List.length_map, List.length_take, List.length_drop, List.length_cons, List.length_nil, Nat.zero_add]; omega)) (by first | omega | (simp only [List.length_append, List.length_map, List.length_take, List.length_drop, List.length_cons, List.length_nil, Nat.zero_add]; omega)) ?_) | (with_reducible refine pick_own default (by first | omega | (simp only [List.length_append, List.length_map, List.length_take, List.length_drop, List.length_cons, List.length_nil, Nat.zero_add]; omega)) ?_) | (with_reducible refine And.intro (by first | decide | omega | assumption | (simp only [List.length_append, List.length_map, List.length_take, List.length_drop, List.length_cons, List.length_nil, Nat.zero_add]; omega)) ?_) | fail); try simp -dsimp -implicitDefEqProofs (maxSteps := 1000000) (disch := first | omega | (simp only [List.length_append, List.length_map, List.length_take, List.length_drop, List.length_cons, List.length_nil, Nat.zero_add]; omega)) only [go_sem, Int.reduceToNat, Int.reducePow, Nat.reducePow, Int.reduceAdd, Int.reduceMul, Int.reduceSub, Int.reduceNeg, Nat.reduceAdd, Nat.reduceMul, Nat.reduceSub, Nat.reduceEqDiff, Nat.reduceLT, Nat.reduceLeDiff])
    | fail)
set_option maxRecDepth 100000 in
set_option maxHeartbeats 4000000 in
theorem o32n (l : List (Int × Int)) (h : 0 < l.length ∧ l.length ≤ 100000) : ACalls Try.prog 32 [.p (.nview 2 (l.map eP))] [] (.sl 0 2 0 l.length) [.arr 2 (l.map eP)] := by
  refine acalls_of (E := E) (fn := Try.f32) 8 [.tmp 2] rfl rfl rfl rfl (by decide) rfl rfl ?_
  repeat' (first
    | (with_reducible first | refine r_seq ?_ | refine r_block ?_ | refine fork_not ?_ | refine fork_and ?_ | refine fork_or ?_ | refine chk_ok (by kernel_rfl) ?_)
    | ((with_reducible first | refine fork_dec (fun h => ?_) (fun h => ?_) | refine fork_eq (fun h => ?_) (fun h => ?_) | refine fork_ne (fun h => ?_) (fun h => ?_) | refine fork_intro (fun h => ?_) (fun h => ?_)))
    | ((with_reducible first | refine r_ret ?_ | refine r_exit ?_ | refine r_skip ?_ | refine r_cond ?_ | refine r_region ?_ | show VX _ _ _ _ _ _ _ | show vstep _ _ _ _ _ | show vskip _ _ _ | show withV _ _); simp -dsimp -implicitDefEqProofs (maxSteps := 1000000) (disch := first | omega | (simp only [List.length_append, List.length_map, List.length_take, List.length_drop, List.length_cons, List.length_nil, Nat.zero_add]; omega)) only [go_sem, Int.reduceToNat, Int.reducePow, Nat.reducePow, Int.reduceAdd, Int.reduceMul, Int.reduceSub, Int.reduceNeg, Nat.reduceAdd, Nat.reduceMul, Nat.reduceSub, Nat.reduceEqDiff, Nat.reduceLT, Nat.reduceLeDiff])
    | ((with_reducible show False); omega)
    | ((first | (with_reducible refine pick_viewG default (by first | omega | (simp only [List.length_append, List.length_map, List.length_take, List.length_drop, List.length_cons, List.length_nil, Nat.zero_add]; omega)) (by first | omega | (simp only [List.length_append, List.length_map, List.length_take, List.length_drop, List.length_cons, List.length_nil, Nat.zero_add]; omega)) ?_) | (with_reducible refine pick_own default (by first | omega | (simp only [List.length_append, List.length_map, List.length_take, List.length_drop, List.length_cons, List.length_nil, Nat.zero_add]; omega)) ?_) | (with_reducible refine And.intro (by first | decide | omega | assumption | (simp only [List.length_append, List.length_map, List.length_take, List.length_drop, List.length_cons, List.length_nil, Nat.zero_add]; omega)) ?_) | fail); try simp -dsimp -implicitDefEqProofs (maxSteps := 1000000) (disch := first | omega | (simp only [List.length_append, List.length_map, List.length_take, List.length_drop, List.length_cons, List.length_nil, Nat.zero_add]; omega)) only [go_sem, Int.reduceToNat, Int.reducePow, Nat.reducePow, Int.reduceAdd, Int.reduceMul, Int.reduceSub, Int.reduceNeg, Nat.reduceAdd, Nat.reduceMul, Nat.reduceSub, Nat.reduceEqDiff, Nat.reduceLT, Nat.reduceLeDiff])
    | fail)
theorem o32 (l : List (Int × Int)) (h : 0 < l.length ∧ l.length ≤ 100000) : ACalls Try.prog 32 [.p (.view 2 (l.map eP))] [] (.sl 0 2 0 l.length) [.arr 2 (l.map eP)] :=
  acalls_ne (pre := []) (by intro e; rw [List.map_eq_nil_iff] at e; simp [e] at h) (o32n l h)
end Go.Proofs.Ytjhmcjogkjecaaa
