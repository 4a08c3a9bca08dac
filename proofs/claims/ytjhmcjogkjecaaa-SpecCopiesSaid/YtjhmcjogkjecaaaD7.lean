/- Contracts of functions of this program, and the plain facts that they rest on. No conditions. -/
import Derived.Test.YtjhmcjogkjecaaaD6
set_option linter.unusedSimpArgs false
set_option linter.unusedVariables false
namespace Go.Proofs.Ytjhmcjogkjecaaa
open Go Go.Ab
attribute [local irreducible] callK callF loopQ vstep vskip pickE hideP
theorem c41n (l : List (Int × Int)) (i : Nat) (w : Bool) (h0 : l.length ≤ 10000) (h2 : i + (if w then 1 else 0) ≤ l.length) : PCalls Try.prog 41 [.view 2 (l.map eP), .v (.int .i64 i), .v (.bool w), .v (.slice none 0 0)] (.view 2 ((l.take i ++ ([] ++ l.drop (i + (if w then 1 else 0)))).map eP)) :=
  pcalls_le (by simp [PLes, PLe, PLe_self]) (c41 l i w [] h0 (by simp) h2)
def replM (l : List (Int × Int)) (i : Nat) (w : Bool) (ps : List (Int × Int)) : List (Int × Int) := l.take i ++ (ps ++ l.drop (i + (if w then 1 else 0)))
def mapM (s : S) (o : O) : S × R :=
  if (o.c = 4 ∨ o.c = 6 ∨ o.c = 3) ∧ hasM s.ps o.key = false then (s, ⟨0, false, 5⟩) else
  if o.c = 4 then (s, ⟨(if hasM s.ps o.key then (s.ps.getD (lbM s.ps o.key) default).2 else 0), true, 0⟩) else
  if o.c = 5 then ({ s with ps := replM s.ps (lbM s.ps o.key) (hasM s.ps o.key) [(o.key, o.val)] }, ⟨(if hasM s.ps o.key then (s.ps.getD (lbM s.ps o.key) default).2 else 0), true, 0⟩) else
  if o.c = 6 then ({ s with ps := replM s.ps (lbM s.ps o.key) true [] }, ⟨(if hasM s.ps o.key then (s.ps.getD (lbM s.ps o.key) default).2 else 0), true, 0⟩) else
  if o.c = 3 then (if (s.ps.getD (lbM s.ps o.key) default).2 = o.old then ({ s with ps := replM s.ps (lbM s.ps o.key) true [(o.key, o.val)] }, ⟨o.old, true, 0⟩) else (s, ⟨(s.ps.getD (lbM s.ps o.key) default).2, false, 6⟩)) else (s, ⟨0, false, 13⟩)
theorem has_lt {l : List (Int × Int)} {k : Int} (h : hasM l k = true) : lbM l k < l.length := by
  simp only [hasM, decide_eq_true_eq] at h; exact h.1
set_option maxRecDepth 100000 in
set_option maxHeartbeats 4000000 in
theorem c28 (s : S) (o : O) (hs : SortedM s.ps) (h0 : s.ps.length ≤ 10000) : PCalls Try.prog 28 [eS s, eO o] (.tup [eS (mapM s o).1, eR (mapM s o).2]) := by
  refine pcalls_facts ⟨_, rfl, rfl, by decide⟩ fun hf => ?_
  simp only [go_sem, big] at hf
  refine pcalls_of (E := E) (fn := Try.f28) 94 [.cell 4 28, .cell 5 32] rfl rfl rfl rfl (by decide) rfl ?_
  have hle := lb_le s.ps o.key
  cases hf : hasM s.ps o.key
  · repeat' (first
      | (with_reducible first | refine r_seq ?_ | refine r_block ?_ | refine fork_not ?_ | refine fork_and ?_ | refine fork_or ?_ | refine chk_ok (by kernel_rfl) ?_)
      | ((with_reducible first | refine fork_dec (fun h => ?_) (fun h => ?_) | refine fork_eq (fun h => ?_) (fun h => ?_) | refine fork_ne (fun h => ?_) (fun h => ?_) | refine fork_intro (fun h => ?_) (fun h => ?_)))
      | ((with_reducible first | refine r_ret ?_ | refine r_exit ?_ | refine r_skip ?_ | refine r_cond ?_ | refine r_region ?_ | show VX _ _ _ _ _ _ _ | show vstep _ _ _ _ _ | show vskip _ _ _ | show withV _ _); simp -dsimp -implicitDefEqProofs (maxSteps := 1000000) (disch := first | omega | (simp only [List.length_append, List.length_map, List.length_take, List.length_drop, List.length_cons, List.length_nil, Nat.zero_add, hf]; omega)) only [go_sem, Int.reduceToNat, Int.reducePow, Nat.reducePow, Int.reduceAdd, Int.reduceMul, Int.reduceSub, Int.reduceNeg, Nat.reduceAdd, Nat.reduceMul, Nat.reduceSub, Nat.reduceEqDiff, Nat.reduceLT, Nat.reduceLeDiff, hf])
      | ((with_reducible show False); omega)
      | ((first | (with_reducible refine pick_viewG default (by first | omega | (simp only [List.length_append, List.length_map, List.length_take, List.length_drop, List.length_cons, List.length_nil, Nat.zero_add, hf]; omega)) (by first | omega | (simp only [List.length_append, List.length_map, List.length_take, List.length_drop, List.length_cons, List.length_nil, Nat.zero_add, hf]; omega)) ?_) | (with_reducible refine pick_own default (by first | omega | (simp only [List.length_append, List.length_map, List.length_take, List.length_drop, List.length_cons, List.length_nil, Nat.zero_add, hf]; omega)) ?_) | (with_reducible refine And.intro (by first | decide | omega | assumption | (simp only [List.length_append, List.length_map, List.length_take, List.length_drop, List.length_cons, List.length_nil, Nat.zero_add, hf]; omega)) ?_) | ((with_reducible apply callK_pure); (first | exact c38 _ _ hs | exact c31 _ _ | exact c30 _ | exact c41 _ _ false [(o.key, o.val)] (by assumption) (by simp) (by simpa using hle) | fail)) | ((with_reducible apply callF_lend); (first | exact c38 _ _ hs | exact c31 _ _ | exact c30 _ | exact c41 _ _ false [(o.key, o.val)] (by assumption) (by simp) (by simpa using hle) | fail); rfl) | ((with_reducible apply callF_go); (first | exact c38 _ _ hs | exact c31 _ _ | exact c30 _ | exact c41 _ _ false [(o.key, o.val)] (by assumption) (by simp) (by simpa using hle) | fail)) | fail); try simp -dsimp -implicitDefEqProofs (maxSteps := 1000000) (disch := first | omega | (simp only [List.length_append, List.length_map, List.length_take, List.length_drop, List.length_cons, List.length_nil, Nat.zero_add, hf]; omega)) only [go_sem, Int.reduceToNat, Int.reducePow, Nat.reducePow, Int.reduceAdd, Int.reduceMul, Int.reduceSub, Int.reduceNeg, Nat.reduceAdd, Nat.reduceMul, Nat.reduceSub, Nat.reduceEqDiff, Nat.reduceLT, Nat.reduceLeDiff, hf])
      | fail)
    all_goals simp_all [mapM, replM, eP]
  · have hlt := has_lt hf
    have e1 := c41 s.ps (lbM s.ps o.key) true [(o.key, o.val)] h0 (by simp) (by simp; omega)
    have e2 := c41n s.ps (lbM s.ps o.key) true h0 (by simp; omega)
    repeat' (first
      | (with_reducible first | refine r_seq ?_ | refine r_block ?_ | refine fork_not ?_ | refine fork_and ?_ | refine fork_or ?_ | refine chk_ok (by kernel_rfl) ?_)
      | ((with_reducible first | refine fork_dec (fun h => ?_) (fun h => ?_) | refine fork_eq (fun h => ?_) (fun h => ?_) | refine fork_ne (fun h => ?_) (fun h => ?_) | refine fork_intro (fun h => ?_) (fun h => ?_)))
      | ((with_reducible first | refine r_ret ?_ | refine r_exit ?_ | refine r_skip ?_ | refine r_cond ?_ | refine r_region ?_ | show VX _ _ _ _ _ _ _ | show vstep _ _ _ _ _ | show vskip _ _ _ | show withV _ _); simp -dsimp -implicitDefEqProofs (maxSteps := 1000000) (disch := first | omega | (simp only [List.length_append, List.length_map, List.length_take, List.length_drop, List.length_cons, List.length_nil, Nat.zero_add, hf]; omega)) only [go_sem, Int.reduceToNat, Int.reducePow, Nat.reducePow, Int.reduceAdd, Int.reduceMul, Int.reduceSub, Int.reduceNeg, Nat.reduceAdd, Nat.reduceMul, Nat.reduceSub, Nat.reduceEqDiff, Nat.reduceLT, Nat.reduceLeDiff, hf])
      | ((with_reducible show False); omega)
      | ((first | (with_reducible refine pick_viewG default (by first | omega | (simp only [List.length_append, List.length_map, List.length_take, List.length_drop, List.length_cons, List.length_nil, Nat.zero_add, hf]; omega)) (by first | omega | (simp only [List.length_append, List.length_map, List.length_take, List.length_drop, List.length_cons, List.length_nil, Nat.zero_add, hf]; omega)) ?_) | (with_reducible refine pick_own default (by first | omega | (simp only [List.length_append, List.length_map, List.length_take, List.length_drop, List.length_cons, List.length_nil, Nat.zero_add, hf]; omega)) ?_) | (with_reducible refine And.intro (by first | decide | omega | assumption | (simp only [List.length_append, List.length_map, List.length_take, List.length_drop, List.length_cons, List.length_nil, Nat.zero_add, hf]; omega)) ?_) | ((with_reducible apply callK_pure); (first | exact c38 _ _ hs | exact c31 _ _ | exact c30 _ | exact e1 | exact e2 | fail)) | ((with_reducible apply callF_lend); (first | exact c38 _ _ hs | exact c31 _ _ | exact c30 _ | exact e1 | exact e2 | fail); rfl) | ((with_reducible apply callF_go); (first | exact c38 _ _ hs | exact c31 _ _ | exact c30 _ | exact e1 | exact e2 | fail)) | fail); try simp -dsimp -implicitDefEqProofs (maxSteps := 1000000) (disch := first | omega | (simp only [List.length_append, List.length_map, List.length_take, List.length_drop, List.length_cons, List.length_nil, Nat.zero_add, hf]; omega)) only [go_sem, Int.reduceToNat, Int.reducePow, Nat.reducePow, Int.reduceAdd, Int.reduceMul, Int.reduceSub, Int.reduceNeg, Nat.reduceAdd, Nat.reduceMul, Nat.reduceSub, Nat.reduceEqDiff, Nat.reduceLT, Nat.reduceLeDiff, hf])
      | fail)
    all_goals simp_all [mapM, replM, eP]
def queM (s : S) (o : O) : S × R :=
  if o.c = 7 then ({ s with vs := s.vs ++ [o.val] }, ⟨o.val, true, 0⟩) else
  if o.c = 8 then (if s.vs.length = 0 then (s, ⟨0, false, 5⟩) else ({ s with vs := s.vs.drop 1 }, ⟨s.vs.getD 0 0, true, 0⟩)) else (s, ⟨0, false, 13⟩)
set_option maxRecDepth 100000 in
set_option maxHeartbeats 4000000 in
theorem c29 (s : S) (o : O) (h0 : s.vs.length ≤ 10000) : PCalls Try.prog 29 [eS s, eO o] (.tup [eS (queM s o).1, eR (queM s o).2]) := by
  refine pcalls_facts ⟨_, rfl, rfl, by decide⟩ fun hf => ?_
  simp only [go_sem, big] at hf
  refine pcalls_of (E := E) (fn := Try.f29) 44 [.cell 4 28, .cell 5 32] rfl rfl rfl rfl (by decide) rfl ?_
  repeat' (first
    | (with_reducible first | refine r_seq ?_ | refine r_block ?_ | refine fork_not ?_ | refine fork_and ?_ | refine fork_or ?_ | refine chk_ok (by kernel_rfl) ?_)
    | ((with_reducible first | refine fork_dec (fun h => ?_) (fun h => ?_) | refine fork_eq (fun h => ?_) (fun h => ?_) | refine fork_ne (fun h => ?_) (fun h => ?_) | refine fork_intro (fun h => ?_) (fun h => ?_)))
    | ((with_reducible first | refine r_ret ?_ | refine r_exit ?_ | refine r_skip ?_ | refine r_cond ?_ | refine r_region ?_ | show VX _ _ _ _ _ _ _ | show vstep _ _ _ _ _ | show vskip _ _ _ | show withV _ _); simp -dsimp -implicitDefEqProofs (maxSteps := 1000000) (disch := first | omega | (simp only [List.length_append, List.length_map, List.length_take, List.length_drop, List.length_cons, List.length_nil, Nat.zero_add, default_int]; omega)) only [go_sem, Int.reduceToNat, Int.reducePow, Nat.reducePow, Int.reduceAdd, Int.reduceMul, Int.reduceSub, Int.reduceNeg, Nat.reduceAdd, Nat.reduceMul, Nat.reduceSub, Nat.reduceEqDiff, Nat.reduceLT, Nat.reduceLeDiff, default_int])
    | ((with_reducible show False); omega)
    | ((first | (with_reducible refine pick_viewG default (by first | omega | (simp only [List.length_append, List.length_map, List.length_take, List.length_drop, List.length_cons, List.length_nil, Nat.zero_add, default_int]; omega)) (by first | omega | (simp only [List.length_append, List.length_map, List.length_take, List.length_drop, List.length_cons, List.length_nil, Nat.zero_add, default_int]; omega)) ?_) | (with_reducible refine pick_own default (by first | omega | (simp only [List.length_append, List.length_map, List.length_take, List.length_drop, List.length_cons, List.length_nil, Nat.zero_add, default_int]; omega)) ?_) | (with_reducible refine And.intro (by first | decide | omega | assumption | (simp only [List.length_append, List.length_map, List.length_take, List.length_drop, List.length_cons, List.length_nil, Nat.zero_add, default_int]; omega)) ?_) | ((with_reducible apply callK_pure); (first | exact c42 [s.vs, [o.val]] (by simp; omega) | exact c31 _ _ | exact c30 _ | fail)) | ((with_reducible apply callF_lend); (first | exact c42 [s.vs, [o.val]] (by simp; omega) | exact c31 _ _ | exact c30 _ | fail); rfl) | ((with_reducible apply callF_go); (first | exact c42 [s.vs, [o.val]] (by simp; omega) | exact c31 _ _ | exact c30 _ | fail)) | fail); try simp -dsimp -implicitDefEqProofs (maxSteps := 1000000) (disch := first | omega | (simp only [List.length_append, List.length_map, List.length_take, List.length_drop, List.length_cons, List.length_nil, Nat.zero_add, default_int]; omega)) only [go_sem, Int.reduceToNat, Int.reducePow, Nat.reducePow, Int.reduceAdd, Int.reduceMul, Int.reduceSub, Int.reduceNeg, Nat.reduceAdd, Nat.reduceMul, Nat.reduceSub, Nat.reduceEqDiff, Nat.reduceLT, Nat.reduceLeDiff, default_int])
    | fail)
  all_goals simp_all [queM]
def applyM (s : S) (o : O) : S × R :=
  if s.k = 1 then regM s o else if s.k = 2 then mapM s o else if s.k = 3 then queM s o else
  if s.k = 4 then (if o.c = 1 then (s, ⟨s.n, true, 0⟩) else if o.c = 9 then ({ s with n := IntKind.u64.wrap (s.n + o.val) }, ⟨IntKind.u64.wrap (s.n + o.val), true, 0⟩) else (s, ⟨0, false, 13⟩)) else (s, ⟨0, false, 13⟩)
set_option maxRecDepth 100000 in
set_option maxHeartbeats 4000000 in
theorem c12 (s : S) (o : O) (hs : SortedM s.ps) (h0 : s.ps.length ≤ 10000) (h1 : s.vs.length ≤ 10000) : PCalls Try.prog 12 [eS s, eO o] (.tup [eS (applyM s o).1, eR (applyM s o).2]) := by
  refine pcalls_facts ⟨_, rfl, rfl, by decide⟩ fun hf => ?_
  simp only [go_sem, big] at hf
  refine pcalls_of (E := E) (fn := Try.f12) 53 [.cell 4 28, .cell 5 32] rfl rfl rfl rfl (by decide) rfl ?_
  repeat' (first
    | (with_reducible first | refine r_seq ?_ | refine r_block ?_ | refine fork_not ?_ | refine fork_and ?_ | refine fork_or ?_ | refine chk_ok (by kernel_rfl) ?_)
    | ((with_reducible first | refine fork_dec (fun h => ?_) (fun h => ?_) | refine fork_eq (fun h => ?_) (fun h => ?_) | refine fork_ne (fun h => ?_) (fun h => ?_) | refine fork_intro (fun h => ?_) (fun h => ?_)))
    | ((with_reducible first | refine r_ret ?_ | refine r_exit ?_ | refine r_skip ?_ | refine r_cond ?_ | refine r_region ?_ | show VX _ _ _ _ _ _ _ | show vstep _ _ _ _ _ | show vskip _ _ _ | show withV _ _); simp -dsimp -implicitDefEqProofs (maxSteps := 1000000) (disch := first | omega | (simp only [List.length_append, List.length_map, List.length_take, List.length_drop, List.length_cons, List.length_nil, Nat.zero_add]; omega)) only [go_sem, Int.reduceToNat, Int.reducePow, Nat.reducePow, Int.reduceAdd, Int.reduceMul, Int.reduceSub, Int.reduceNeg, Nat.reduceAdd, Nat.reduceMul, Nat.reduceSub, Nat.reduceEqDiff, Nat.reduceLT, Nat.reduceLeDiff])
    | ((with_reducible show False); omega)
    | ((first | (with_reducible refine pick_viewG default (by first | omega | (simp only [List.length_append, List.length_map, List.length_take, List.length_drop, List.length_cons, List.length_nil, Nat.zero_add]; omega)) (by first | omega | (simp only [List.length_append, List.length_map, List.length_take, List.length_drop, List.length_cons, List.length_nil, Nat.zero_add]; omega)) ?_) | (with_reducible refine pick_own default (by first | omega | (simp only [List.length_append, List.length_map, List.length_take, List.length_drop, List.length_cons, List.length_nil, Nat.zero_add]; omega)) ?_) | (with_reducible refine And.intro (by first | decide | omega | assumption | (simp only [List.length_append, List.length_map, List.length_take, List.length_drop, List.length_cons, List.length_nil, Nat.zero_add]; omega)) ?_) | ((with_reducible apply callK_pure); (first | exact c27 s o | exact c28 s o hs h0 | exact c29 s o h1 | exact c30 _ | exact c31 _ _ | fail)) | ((with_reducible apply callF_lend); (first | exact c27 s o | exact c28 s o hs h0 | exact c29 s o h1 | exact c30 _ | exact c31 _ _ | fail); rfl) | ((with_reducible apply callF_go); (first | exact c27 s o | exact c28 s o hs h0 | exact c29 s o h1 | exact c30 _ | exact c31 _ _ | fail)) | fail); try simp -dsimp -implicitDefEqProofs (maxSteps := 1000000) (disch := first | omega | (simp only [List.length_append, List.length_map, List.length_take, List.length_drop, List.length_cons, List.length_nil, Nat.zero_add]; omega)) only [go_sem, Int.reduceToNat, Int.reducePow, Nat.reducePow, Int.reduceAdd, Int.reduceMul, Int.reduceSub, Int.reduceNeg, Nat.reduceAdd, Nat.reduceMul, Nat.reduceSub, Nat.reduceEqDiff, Nat.reduceLT, Nat.reduceLeDiff])
    | fail)
  all_goals simp_all [applyM]
end Go.Proofs.Ytjhmcjogkjecaaa
