/- Contracts of functions of this program, and the plain facts that they rest on. No conditions. -/
import Derived.Test.YtjhmcjogkjecaaaD7
set_option linter.unusedSimpArgs false
set_option linter.unusedVariables false
namespace Go.Proofs.Ytjhmcjogkjecaaa
open Go Go.Ab
attribute [local irreducible] callK callF loopQ vstep vskip pickE hideP
/-- How many keys lie ahead. -/
theorem lb_drop {l : List (Int × Int)} {k : Int} : ∀ {i : Nat}, (∀ m, m < i → (l.getD m default).1 < k) → i ≤ l.length → lbM l k = i + lbM (l.drop i) k := by
  induction l with
  | nil => intro i _ h; simp at h; subst h; rfl
  | cons p t ih =>
    intro i h1 h2
    cases i with
    | zero => simp
    | succ i =>
      have h0 := h1 0 (by omega)
      simp only [List.getD_cons_zero] at h0
      simp only [lbM, List.drop_succ_cons]
      rw [if_pos h0, ih (i := i) (fun m hm => by simpa using h1 (m + 1) (by omega)) (by simpa using h2)]; omega
def setM (l : List (Int × Int)) (k v : Int) : List (Int × Int) := (withoutM l k).take (lbM (withoutM l k) k) ++ ((k, v) :: (withoutM l k).drop (lbM (withoutM l k) k))
set_option maxRecDepth 100000 in
set_option maxHeartbeats 4000000 in
theorem c44 (l : List (Int × Int)) (k v : Int) (h : l.length ≤ 10000) : PCalls Try.prog 44 [.view 2 (l.map eP), .v (.int .u64 k), .v (.int .u64 v)] (.view 2 ((setM l k v).map eP)) := by
  refine pcalls_facts ⟨_, rfl, rfl, by decide⟩ fun hf => ?_
  simp only [go_sem, big] at hf
  refine pcalls_of (E := E) (fn := Try.f44) 41 [.tmp 6] rfl rfl rfl rfl (by decide) rfl ?_
  have hl := without_len l k
  have hb := lb_le (withoutM l k) k
  repeat' (first
    | (with_reducible first | refine r_seq ?_ | refine r_block ?_ | refine fork_not ?_ | refine fork_and ?_ | refine fork_or ?_ | refine chk_ok (by kernel_rfl) ?_)
    | ((with_reducible first | refine fork_dec (fun h => ?_) (fun h => ?_) | refine fork_eq (fun h => ?_) (fun h => ?_) | refine fork_ne (fun h => ?_) (fun h => ?_) | refine fork_intro (fun h => ?_) (fun h => ?_)))
    | ((with_reducible first | refine r_ret ?_ | refine r_exit ?_ | refine r_skip ?_ | refine r_cond ?_ | refine r_region ?_ | show VX _ _ _ _ _ _ _ | show vstep _ _ _ _ _ | show vskip _ _ _ | show withV _ _); simp -dsimp -implicitDefEqProofs (maxSteps := 1000000) (disch := first | omega | (simp only [List.length_append, List.length_map, List.length_take, List.length_drop, List.length_cons, List.length_nil, Nat.zero_add]; omega)) only [go_sem, Int.reduceToNat, Int.reducePow, Nat.reducePow, Int.reduceAdd, Int.reduceMul, Int.reduceSub, Int.reduceNeg, Nat.reduceAdd, Nat.reduceMul, Nat.reduceSub, Nat.reduceEqDiff, Nat.reduceLT, Nat.reduceLeDiff])
    | ((with_reducible show False); omega)
    | ((first | (with_reducible refine pick_viewG default (by first | omega | (simp only [List.length_append, List.length_map, List.length_take, List.length_drop, List.length_cons, List.length_nil, Nat.zero_add]; omega)) (by first | omega | (simp only [List.length_append, List.length_map, List.length_take, List.length_drop, List.length_cons, List.length_nil, Nat.zero_add]; omega)) ?_) | (with_reducible refine pick_own default (by first | omega | (simp only [List.length_append, List.length_map, List.length_take, List.length_drop, List.length_cons, List.length_nil, Nat.zero_add]; omega)) ?_) | (with_reducible refine And.intro (by first | decide | omega | assumption | (simp only [List.length_append, List.length_map, List.length_take, List.length_drop, List.length_cons, List.length_nil, Nat.zero_add]; omega)) ?_) | ((with_reducible apply callK_pure); (exact c45 _ _ (by omega))) | ((with_reducible apply callF_lend); (exact c45 _ _ (by omega)); rfl) | ((with_reducible apply callF_go); (exact c45 _ _ (by omega))) | fail); try simp -dsimp -implicitDefEqProofs (maxSteps := 1000000) (disch := first | omega | (simp only [List.length_append, List.length_map, List.length_take, List.length_drop, List.length_cons, List.length_nil, Nat.zero_add]; omega)) only [go_sem, Int.reduceToNat, Int.reducePow, Nat.reducePow, Int.reduceAdd, Int.reduceMul, Int.reduceSub, Int.reduceNeg, Nat.reduceAdd, Nat.reduceMul, Nat.reduceSub, Nat.reduceEqDiff, Nat.reduceLT, Nat.reduceLeDiff])
    | fail)
  refine r_loopA (α := Nat) [1, 2, 7] (fun i b => [(8, aI i)]) (fun i b => []) (fun i => []) (fun i => i ≤ (withoutM l k).length ∧ (∀ m, m < i → ((withoutM l k).getD m default).1 < k)) (fun i => (withoutM l k).length - i) (0) ?h0_1 ?hs0_1 ?I_1 ?hI_1 ?round_1
  case hI_1 => intro x; simp -dsimp -implicitDefEqProofs (maxSteps := 1000000) (disch := first | omega | (simp only [List.length_append, List.length_map, List.length_take, List.length_drop, List.length_cons, List.length_nil, Nat.zero_add]; omega)) only [go_sem, Int.reduceToNat, Int.reducePow, Nat.reducePow, Int.reduceAdd, Int.reduceMul, Int.reduceSub, Int.reduceNeg, Nat.reduceAdd, Nat.reduceMul, Nat.reduceSub, Nat.reduceEqDiff, Nat.reduceLT, Nat.reduceLeDiff]; exact rfl
  case hs0_1 => refine wk_auto ?_; simp -dsimp -implicitDefEqProofs (maxSteps := 1000000) (disch := first | omega | (simp only [List.length_append, List.length_map, List.length_take, List.length_drop, List.length_cons, List.length_nil, Nat.zero_add]; omega)) only [go_sem, Int.reduceToNat, Int.reducePow, Nat.reducePow, Int.reduceAdd, Int.reduceMul, Int.reduceSub, Int.reduceNeg, Nat.reduceAdd, Nat.reduceMul, Nat.reduceSub, Nat.reduceEqDiff, Nat.reduceLT, Nat.reduceLeDiff]
  case h0_1 => exact ⟨by omega, fun m hm => by omega⟩
  case round_1 =>
    rintro i ⟨h1, h2⟩
    repeat' (first
      | (with_reducible first | refine r_seq ?_ | refine r_block ?_ | refine fork_not ?_ | refine fork_and ?_ | refine fork_or ?_ | refine chk_ok (by kernel_rfl) ?_)
      | ((with_reducible first | refine fork_dec (fun h => ?_) (fun h => ?_) | refine fork_eq (fun h => ?_) (fun h => ?_) | refine fork_ne (fun h => ?_) (fun h => ?_) | refine fork_intro (fun h => ?_) (fun h => ?_)) <;> try (exfalso; first | omega | exact h rfl | (cases h; done)))
      | ((with_reducible first | refine r_ret ?_ | refine r_exit ?_ | refine r_skip ?_ | refine r_cond ?_ | refine r_region ?_ | show VX _ _ _ _ _ _ _ | show vstep _ _ _ _ _ | show vskip _ _ _ | show withV _ _); simp -dsimp -implicitDefEqProofs (maxSteps := 1000000) (disch := first | omega | (simp only [List.length_append, List.length_map, List.length_take, List.length_drop, List.length_cons, List.length_nil, Nat.zero_add]; omega)) only [go_sem, Int.reduceToNat, Int.reducePow, Nat.reducePow, Int.reduceAdd, Int.reduceMul, Int.reduceSub, Int.reduceNeg, Nat.reduceAdd, Nat.reduceMul, Nat.reduceSub, Nat.reduceEqDiff, Nat.reduceLT, Nat.reduceLeDiff])
      | ((with_reducible show False); omega)
      | ((first | (with_reducible refine pick_viewG default (by first | omega | (simp only [List.length_append, List.length_map, List.length_take, List.length_drop, List.length_cons, List.length_nil, Nat.zero_add]; omega)) (by first | omega | (simp only [List.length_append, List.length_map, List.length_take, List.length_drop, List.length_cons, List.length_nil, Nat.zero_add]; omega)) ?_) | (with_reducible refine pick_own default (by first | omega | (simp only [List.length_append, List.length_map, List.length_take, List.length_drop, List.length_cons, List.length_nil, Nat.zero_add]; omega)) ?_) | (with_reducible refine And.intro (by first | decide | omega | assumption | (simp only [List.length_append, List.length_map, List.length_take, List.length_drop, List.length_cons, List.length_nil, Nat.zero_add]; omega)) ?_) | fail); try simp -dsimp -implicitDefEqProofs (maxSteps := 1000000) (disch := first | omega | (simp only [List.length_append, List.length_map, List.length_take, List.length_drop, List.length_cons, List.length_nil, Nat.zero_add]; omega)) only [go_sem, Int.reduceToNat, Int.reducePow, Nat.reducePow, Int.reduceAdd, Int.reduceMul, Int.reduceSub, Int.reduceNeg, Nat.reduceAdd, Nat.reduceMul, Nat.reduceSub, Nat.reduceEqDiff, Nat.reduceLT, Nat.reduceLeDiff])
      | fail)
    all_goals first
      | (refine loopQ_next (i + 1) ?_ ?_ ?_; (exact ⟨by omega, fun m hm => by rcases Nat.lt_or_ge m i with h' | h'; exact h2 m h'; (have : m = i := by omega); rw [this]; assumption⟩); (show _ < _; omega); (simp -dsimp -implicitDefEqProofs (maxSteps := 1000000) (disch := first | omega | (simp only [List.length_append, List.length_map, List.length_take, List.length_drop, List.length_cons, List.length_nil, Nat.zero_add]; omega)) only [go_sem, Int.reduceToNat, Int.reducePow, Nat.reducePow, Int.reduceAdd, Int.reduceMul, Int.reduceSub, Int.reduceNeg, Nat.reduceAdd, Nat.reduceMul, Nat.reduceSub, Nat.reduceEqDiff, Nat.reduceLT, Nat.reduceLeDiff]; try trivial))
      | (have e := lb_eq (withoutM l k) k i h1 h2 (fun m hm hl => by subst hm; omega); simp [setM, e, eP]; first | done | omega | (rw [List.take_of_length_le (by simp; omega)]))
structure T where
  v : Int
  b : Bool
  e : Int
@[go_sem] def eT (r : T) : PV := .agg [.v (.int .u64 r.v), .v (.bool r.b), .v (.int .i64 r.e)]
@[go_sem] theorem eta_T (s : T) : (⟨s.v, s.b, s.e⟩ : T) = s := rfl
def rMap (l : List (Int × Int)) (o : Q) : List (Int × Int) × T :=
  if o.c = 5 then (setM l o.key o.val, ⟨(findM l o.key).getD 0, true, 0⟩) else
  if ¬(o.c = 4 ∨ o.c = 6 ∨ o.c = 3) then (l, ⟨0, false, 13⟩) else
  if (findM l o.key).isSome = false then (l, ⟨0, false, 5⟩) else
  if o.c = 6 then (withoutM l o.key, ⟨(findM l o.key).getD 0, true, 0⟩) else
  if o.c = 3 then (if (findM l o.key).getD 0 = o.old then (setM l o.key o.val, ⟨(findM l o.key).getD 0, true, 0⟩) else (l, ⟨(findM l o.key).getD 0, false, 6⟩)) else
  (l, ⟨(findM l o.key).getD 0, true, 0⟩)
set_option maxRecDepth 100000 in
set_option maxHeartbeats 4000000 in
theorem c34 (l : List (Int × Int)) (o : Q) (h0 : l.length ≤ 10000) : PCalls Try.prog 34 [eM 2 l, eQ o] (.tup [eM 2 (rMap l o).1, eT (rMap l o).2]) := by
  refine pcalls_of (E := E) (fn := Try.f34) 74 [.cell 4 45, .cell 5 56] rfl rfl rfl rfl (by decide) rfl ?_
  repeat' (first
    | (with_reducible first | refine r_seq ?_ | refine r_block ?_ | refine fork_not ?_ | refine fork_and ?_ | refine fork_or ?_ | refine chk_ok (by kernel_rfl) ?_)
    | ((with_reducible first | refine fork_dec (fun h => ?_) (fun h => ?_) | refine fork_eq (fun h => ?_) (fun h => ?_) | refine fork_ne (fun h => ?_) (fun h => ?_) | refine fork_intro (fun h => ?_) (fun h => ?_)))
    | ((with_reducible first | refine r_ret ?_ | refine r_exit ?_ | refine r_skip ?_ | refine r_cond ?_ | refine r_region ?_ | show VX _ _ _ _ _ _ _ | show vstep _ _ _ _ _ | show vskip _ _ _ | show withV _ _); simp -dsimp -implicitDefEqProofs (maxSteps := 1000000) (disch := first | omega | (simp only [List.length_append, List.length_map, List.length_take, List.length_drop, List.length_cons, List.length_nil, Nat.zero_add]; omega)) only [go_sem, Int.reduceToNat, Int.reducePow, Nat.reducePow, Int.reduceAdd, Int.reduceMul, Int.reduceSub, Int.reduceNeg, Nat.reduceAdd, Nat.reduceMul, Nat.reduceSub, Nat.reduceEqDiff, Nat.reduceLT, Nat.reduceLeDiff])
    | ((with_reducible show False); omega)
    | ((first | (with_reducible refine pick_viewG default (by first | omega | (simp only [List.length_append, List.length_map, List.length_take, List.length_drop, List.length_cons, List.length_nil, Nat.zero_add]; omega)) (by first | omega | (simp only [List.length_append, List.length_map, List.length_take, List.length_drop, List.length_cons, List.length_nil, Nat.zero_add]; omega)) ?_) | (with_reducible refine pick_own default (by first | omega | (simp only [List.length_append, List.length_map, List.length_take, List.length_drop, List.length_cons, List.length_nil, Nat.zero_add]; omega)) ?_) | (with_reducible refine And.intro (by first | decide | omega | assumption | (simp only [List.length_append, List.length_map, List.length_take, List.length_drop, List.length_cons, List.length_nil, Nat.zero_add]; omega)) ?_) | ((with_reducible apply callK_pure); (first | exact c43 _ _ | exact c44 _ _ _ h0 | exact c45 _ _ (by omega) | fail)) | ((with_reducible apply callF_lend); (first | exact c43 _ _ | exact c44 _ _ _ h0 | exact c45 _ _ (by omega) | fail); rfl) | ((with_reducible apply callF_go); (first | exact c43 _ _ | exact c44 _ _ _ h0 | exact c45 _ _ (by omega) | fail)) | fail); try simp -dsimp -implicitDefEqProofs (maxSteps := 1000000) (disch := first | omega | (simp only [List.length_append, List.length_map, List.length_take, List.length_drop, List.length_cons, List.length_nil, Nat.zero_add]; omega)) only [go_sem, Int.reduceToNat, Int.reducePow, Nat.reducePow, Int.reduceAdd, Int.reduceMul, Int.reduceSub, Int.reduceNeg, Nat.reduceAdd, Nat.reduceMul, Nat.reduceSub, Nat.reduceEqDiff, Nat.reduceLT, Nat.reduceLeDiff])
    | fail)
  all_goals (simp only [rMap]; simp_all)
end Go.Proofs.Ytjhmcjogkjecaaa
