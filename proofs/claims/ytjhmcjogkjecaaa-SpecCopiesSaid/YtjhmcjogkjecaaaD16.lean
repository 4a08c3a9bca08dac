/- Contracts of functions of this program, and the plain facts that they rest on. No conditions. -/
import Derived.Test.YtjhmcjogkjecaaaD15
set_option linter.unusedSimpArgs false
set_option linter.unusedVariables false
namespace Go.Proofs.Ytjhmcjogkjecaaa
open Go Go.Ab
attribute [local irreducible] callK callF loopQ vstep vskip pickE hideP
/-! Maps: a Put, and what is there then. -/
namespace Pl
theorem look_ins : ∀ {l : LP} {k v : Int}, srt l → look (ins l k v) k = some v
  | [], k, v, _ => by simp [ins, look]
  | p :: t, k, v, h => by
    simp only [ins]
    by_cases h1 : p.1 < k
    · rw [if_pos h1]; simp only [look, if_pos h1]; exact look_ins h.2
    · rw [if_neg h1]
      by_cases h2 : p.1 = k
      · rw [if_pos h2]; simp [look]
      · rw [if_neg h2]; simp [look]
theorem look_big : ∀ {l : LP} {k : Int}, (∀ q, q ∈ l → k < q.1) → look l k = none
  | [], _, _ => rfl
  | p :: t, k, h => by
    have := h p List.mem_cons_self
    simp only [look]; rw [if_neg (by omega), if_neg (by omega)]
theorem look_del : ∀ {l : LP} {k : Int}, srt l → look (del l k) k = none
  | [], k, _ => rfl
  | p :: t, k, h => by
    simp only [del]
    by_cases h1 : p.1 < k
    · rw [if_pos h1]; simp only [look, if_pos h1]; exact look_del h.2
    · rw [if_neg h1]
      by_cases h2 : p.1 = k
      · rw [if_pos h2]; exact look_big fun q hq => by have := h.1 q hq; omega
      · rw [if_neg h2]; simp only [look, if_neg h1, if_neg h2]
theorem look_small {p : Int × Int} {t : LP} {x : Int} (h : srt (p :: t)) (hx : x < p.1) : look (p :: t) x = none :=
  look_big fun q hq => by
    rcases List.mem_cons.1 hq with rfl | hq
    · exact hx
    · have := h.1 q hq; omega
theorem del_ins_other : ∀ {l : LP} {k v x : Int}, srt l → x ≠ k → look (del (ins l k v) k) x = look l x
  | [], k, v, x, _, hx => by simp [ins, del, look]
  | p :: t, k, v, x, h, hx => by
    simp only [ins]
    by_cases h1 : p.1 < k
    · rw [if_pos h1]
      simp only [del, if_pos h1, look]
      rw [del_ins_other h.2 hx]
    · rw [if_neg h1]
      by_cases h2 : p.1 = k
      · rw [if_pos h2]
        simp only [del]
        rw [if_neg (by omega), if_pos trivial]
        simp only [look]
        by_cases h3 : p.1 < x
        · rw [if_pos h3]
        · rw [if_neg h3, if_neg (by omega)]
          exact look_big fun q hq => by have := h.1 q hq; omega
      · rw [if_neg h2]
        simp only [del]
        rw [if_neg (by omega), if_pos trivial]
theorem look_mem : ∀ {l : LP} {q : Int × Int}, srt l → q ∈ l → look l q.1 = some q.2
  | [], q, _, h => by simp at h
  | p :: t, q, h, hq => by
    simp only [look]
    rcases List.mem_cons.1 hq with rfl | hq
    · rw [if_neg (by omega), if_pos rfl]
    · have := h.1 q hq
      rw [if_pos this]; exact look_mem h.2 hq
end Pl
theorem app_put (l : List (Int × Int)) (n : Int) (vs : List Int) (k v : Int) : applyM ⟨2, n, l, vs⟩ ⟨5, k, v, 0⟩ = (⟨2, n, Pl.ins l k v, vs⟩, ⟨(Pl.look l k).getD 0, true, 0⟩) := by
  have : applyM ⟨2, n, l, vs⟩ ⟨5, k, v, 0⟩ = mapM ⟨2, n, l, vs⟩ ⟨5, k, v, 0⟩ := rfl
  rw [this, map_pl]; simp [mapP']
theorem app_get (l : List (Int × Int)) (n : Int) (vs : List Int) (k : Int) : applyM ⟨2, n, l, vs⟩ ⟨4, k, 0, 0⟩ = (⟨2, n, l, vs⟩, if (Pl.look l k).isSome then ⟨(Pl.look l k).getD 0, true, 0⟩ else ⟨0, false, 5⟩) := by
  have : applyM ⟨2, n, l, vs⟩ ⟨4, k, 0, 0⟩ = mapM ⟨2, n, l, vs⟩ ⟨4, k, 0, 0⟩ := rfl
  rw [this, map_pl]; cases h : Pl.look l k <;> simp [mapP', h]
theorem app_del {l : List (Int × Int)} (n : Int) (vs : List Int) {k v : Int} (h : Pl.look l k = some v) : applyM ⟨2, n, l, vs⟩ ⟨6, k, 0, 0⟩ = (⟨2, n, Pl.del l k, vs⟩, ⟨v, true, 0⟩) := by
  have : applyM ⟨2, n, l, vs⟩ ⟨6, k, 0, 0⟩ = mapM ⟨2, n, l, vs⟩ ⟨6, k, 0, 0⟩ := rfl
  rw [this, map_pl]; simp [mapP', h]
theorem apply_k (s : S) (o : O) : (applyM s o).1.k = s.k := by
  unfold applyM
  split
  · unfold regM; repeat' split
    all_goals rfl
  split
  · rw [map_pl]; unfold mapP'; repeat' split
    all_goals rfl
  split
  · unfold queM; repeat' split
    all_goals rfl
  split
  · repeat' split
    all_goals rfl
  · rfl
set_option maxRecDepth 100000 in
set_option maxHeartbeats 4000000 in
theorem c9 (l : List O) (key val : Int) : PCalls Try.prog 9 [.view 4 (l.map eO), .v (.int .u64 key), .v (.int .u64 val)] (.v (.bool true)) := by
  refine pcalls_facts ⟨_, rfl, rfl, by decide⟩ fun hf => ?_
  simp only [go_sem, big] at hf
  refine pcalls_of (E := E) (fn := Try.f9) 117 [.tmp 6] rfl rfl rfl rfl (by decide) rfl ?_
  have hl2 : (l.take (min (l.length : Int) 20).toNat).length ≤ 20 := by simp; omega
  generalize el : l.take (min (l.length : Int) 20).toNat = l2 at hl2
  repeat' (first
    | (with_reducible first | refine r_seq ?_ | refine r_block ?_ | refine fork_not ?_ | refine fork_and ?_ | refine fork_or ?_ | refine chk_ok (by kernel_rfl) ?_)
    | ((with_reducible first | refine fork_dec (fun h => ?_) (fun h => ?_) | refine fork_eq (fun h => ?_) (fun h => ?_) | refine fork_ne (fun h => ?_) (fun h => ?_) | refine fork_intro (fun h => ?_) (fun h => ?_)) <;> try (exfalso; first | omega | exact h rfl | (cases h; done)))
    | ((with_reducible first | refine r_ret ?_ | refine r_exit ?_ | refine r_skip ?_ | refine r_cond ?_ | refine r_region ?_ | show VX _ _ _ _ _ _ _ | show vstep _ _ _ _ _ | show vskip _ _ _ | show withV _ _); simp -dsimp -implicitDefEqProofs (maxSteps := 1000000) (disch := first | omega | (simp only [List.length_append, List.length_map, List.length_take, List.length_drop, List.length_cons, List.length_nil, Nat.zero_add, en2, el]; omega)) only [go_sem, Int.reduceToNat, Int.reducePow, Nat.reducePow, Int.reduceAdd, Int.reduceMul, Int.reduceSub, Int.reduceNeg, Nat.reduceAdd, Nat.reduceMul, Nat.reduceSub, Nat.reduceEqDiff, Nat.reduceLT, Nat.reduceLeDiff, en2, el])
    | ((with_reducible show False); omega)
    | ((first | (with_reducible refine pick_viewG default (by first | omega | (simp only [List.length_append, List.length_map, List.length_take, List.length_drop, List.length_cons, List.length_nil, Nat.zero_add, en2, el]; omega)) (by first | omega | (simp only [List.length_append, List.length_map, List.length_take, List.length_drop, List.length_cons, List.length_nil, Nat.zero_add, en2, el]; omega)) ?_) | (with_reducible refine pick_own default (by first | omega | (simp only [List.length_append, List.length_map, List.length_take, List.length_drop, List.length_cons, List.length_nil, Nat.zero_add, en2, el]; omega)) ?_) | (with_reducible refine And.intro (by first | decide | omega | assumption | (simp only [List.length_append, List.length_map, List.length_take, List.length_drop, List.length_cons, List.length_nil, Nat.zero_add, en2, el]; omega)) ?_) | ((with_reducible apply callK_pure); (first | exact c10 | exact c11 2 | fail)) | ((with_reducible apply callF_lend); (first | exact c10 | exact c11 2 | fail); rfl) | ((with_reducible apply callF_go); (first | exact c10 | exact c11 2 | fail)) | fail); try simp -dsimp -implicitDefEqProofs (maxSteps := 1000000) (disch := first | omega | (simp only [List.length_append, List.length_map, List.length_take, List.length_drop, List.length_cons, List.length_nil, Nat.zero_add, en2, el]; omega)) only [go_sem, Int.reduceToNat, Int.reducePow, Nat.reducePow, Int.reduceAdd, Int.reduceMul, Int.reduceSub, Int.reduceNeg, Nat.reduceAdd, Nat.reduceMul, Nat.reduceSub, Nat.reduceEqDiff, Nat.reduceLT, Nat.reduceLeDiff, en2, el])
    | fail)
  refine r_loopA (α := Nat × S) [1, 2, 7, 30, 31] (fun x b => [(32, aI x.1)]) (fun x b => [(7, .var [.p (.v (.int .u8 x.2.k)), .p (.v (.int .u64 x.2.n)), .p (.view 2 (x.2.ps.map eP)), .p (.view 1 (x.2.vs.map eV))])]) (fun x => []) (fun x => x.1 ≤ l2.length ∧ Inv x.2 x.1 ∧ x.2.k = 2) (fun x => l2.length - x.1) ((0, ⟨2, 0, [], []⟩)) ?h0_1 ?hs0_1 ?I_1 ?hI_1 ?round_1
  case hI_1 => intro x; simp -dsimp -implicitDefEqProofs (maxSteps := 1000000) (disch := first | omega | (simp only [List.length_append, List.length_map, List.length_take, List.length_drop, List.length_cons, List.length_nil, Nat.zero_add]; omega)) only [go_sem, Int.reduceToNat, Int.reducePow, Nat.reducePow, Int.reduceAdd, Int.reduceMul, Int.reduceSub, Int.reduceNeg, Nat.reduceAdd, Nat.reduceMul, Nat.reduceSub, Nat.reduceEqDiff, Nat.reduceLT, Nat.reduceLeDiff]; exact rfl
  case hs0_1 => refine wk_auto ?_; simp -dsimp -implicitDefEqProofs (maxSteps := 1000000) (disch := first | omega | (simp only [List.length_append, List.length_map, List.length_take, List.length_drop, List.length_cons, List.length_nil, Nat.zero_add]; omega)) only [go_sem, Int.reduceToNat, Int.reducePow, Nat.reducePow, Int.reduceAdd, Int.reduceMul, Int.reduceSub, Int.reduceNeg, Nat.reduceAdd, Nat.reduceMul, Nat.reduceSub, Nat.reduceEqDiff, Nat.reduceLT, Nat.reduceLeDiff]
  case h0_1 => exact ⟨Nat.zero_le _, ⟨trivial, Nat.le_refl _, Nat.le_refl _, by simp⟩, rfl⟩
  case round_1 =>
    rintro ⟨i, s⟩ ⟨h1, h2, h3⟩
    dsimp only at h1 h2 h3
    have hs := sorted_pl.2 h2.srt
    have hp := h2.ps
    have hv := h2.vs
    by_cases hi : i < l2.length
    · have hn := inv_apply h2 (l2.getD i default)
      have hk := apply_k s (l2.getD i default)
      repeat' (first
        | (with_reducible first | refine r_seq ?_ | refine r_block ?_ | refine fork_not ?_ | refine fork_and ?_ | refine fork_or ?_ | refine chk_ok (by kernel_rfl) ?_)
        | ((with_reducible first | refine fork_dec (fun h => ?_) (fun h => ?_) | refine fork_eq (fun h => ?_) (fun h => ?_) | refine fork_ne (fun h => ?_) (fun h => ?_) | refine fork_intro (fun h => ?_) (fun h => ?_)) <;> try (exfalso; first | omega | exact h rfl | (cases h; done)))
        | ((with_reducible first | refine r_ret ?_ | refine r_exit ?_ | refine r_skip ?_ | refine r_cond ?_ | refine r_region ?_ | show VX _ _ _ _ _ _ _ | show vstep _ _ _ _ _ | show vskip _ _ _ | show withV _ _); simp -dsimp -implicitDefEqProofs (maxSteps := 1000000) (disch := first | omega | (simp only [List.length_append, List.length_map, List.length_take, List.length_drop, List.length_cons, List.length_nil, Nat.zero_add]; omega)) only [go_sem, Int.reduceToNat, Int.reducePow, Nat.reducePow, Int.reduceAdd, Int.reduceMul, Int.reduceSub, Int.reduceNeg, Nat.reduceAdd, Nat.reduceMul, Nat.reduceSub, Nat.reduceEqDiff, Nat.reduceLT, Nat.reduceLeDiff])
        | ((with_reducible show False); omega)
        | ((first | (with_reducible refine pick_viewG default (by first | omega | (simp only [List.length_append, List.length_map, List.length_take, List.length_drop, List.length_cons, List.length_nil, Nat.zero_add]; omega)) (by first | omega | (simp only [List.length_append, List.length_map, List.length_take, List.length_drop, List.length_cons, List.length_nil, Nat.zero_add]; omega)) ?_) | (with_reducible refine pick_own default (by first | omega | (simp only [List.length_append, List.length_map, List.length_take, List.length_drop, List.length_cons, List.length_nil, Nat.zero_add]; omega)) ?_) | (with_reducible refine And.intro (by first | decide | omega | assumption | (simp only [List.length_append, List.length_map, List.length_take, List.length_drop, List.length_cons, List.length_nil, Nat.zero_add]; omega)) ?_) | ((with_reducible apply callK_pure); (exact c12 s _ hs (by omega) (by omega))) | ((with_reducible apply callF_lend); (exact c12 s _ hs (by omega) (by omega)); rfl) | ((with_reducible apply callF_go); (exact c12 s _ hs (by omega) (by omega))) | fail); try simp -dsimp -implicitDefEqProofs (maxSteps := 1000000) (disch := first | omega | (simp only [List.length_append, List.length_map, List.length_take, List.length_drop, List.length_cons, List.length_nil, Nat.zero_add]; omega)) only [go_sem, Int.reduceToNat, Int.reducePow, Nat.reducePow, Int.reduceAdd, Int.reduceMul, Int.reduceSub, Int.reduceNeg, Nat.reduceAdd, Nat.reduceMul, Nat.reduceSub, Nat.reduceEqDiff, Nat.reduceLT, Nat.reduceLeDiff])
        | fail)
      all_goals (refine loopQ_next ((i + 1, (applyM s (l2.getD i default)).1)) ?_ ?_ ?_; (exact ⟨by dsimp only; omega, hn, by rw [hk]; exact h3⟩); (show _ < _; omega); (simp -dsimp -implicitDefEqProofs (maxSteps := 1000000) (disch := first | omega | (simp only [List.length_append, List.length_map, List.length_take, List.length_drop, List.length_cons, List.length_nil, Nat.zero_add]; omega)) only [go_sem, Int.reduceToNat, Int.reducePow, Nat.reducePow, Int.reduceAdd, Int.reduceMul, Int.reduceSub, Int.reduceNeg, Nat.reduceAdd, Nat.reduceMul, Nat.reduceSub, Nat.reduceEqDiff, Nat.reduceLT, Nat.reduceLeDiff]; try trivial))
    · obtain ⟨k, n, ps, vs⟩ := s
      dsimp only at h3 hp hv hs
      subst h3
      have srt := h2.srt
      dsimp only at srt
      have si := Pl.srt_ins (k := key) (v := val) srt
      have sd := Pl.srt_del (k := key) si
      have li := Pl.len_ins ps key val
      have ld := Pl.len_del (Pl.ins ps key val) key
      have q1 := app_put ps n vs key val
      have q2 : applyM ⟨2, n, Pl.ins ps key val, vs⟩ ⟨4, key, 0, 0⟩ = (⟨2, n, Pl.ins ps key val, vs⟩, ⟨val, true, 0⟩) := by rw [app_get, Pl.look_ins srt]; rfl
      have q3 := app_del n vs (Pl.look_ins (k := key) (v := val) srt)
      have q4 : applyM ⟨2, n, Pl.del (Pl.ins ps key val) key, vs⟩ ⟨4, key, 0, 0⟩ = (⟨2, n, Pl.del (Pl.ins ps key val) key, vs⟩, ⟨0, false, 5⟩) := by rw [app_get, Pl.look_del si]; rfl
      have q5 : contM ⟨2, n, ps, vs⟩ = ps := rfl
      have q6 : contM ⟨2, n, Pl.ins ps key val, vs⟩ = Pl.ins ps key val := rfl
      repeat' (first
        | (with_reducible first | refine r_seq ?_ | refine r_block ?_ | refine fork_not ?_ | refine fork_and ?_ | refine fork_or ?_ | refine chk_ok (by kernel_rfl) ?_)
        | ((with_reducible first | refine fork_dec (fun h => ?_) (fun h => ?_) | refine fork_eq (fun h => ?_) (fun h => ?_) | refine fork_ne (fun h => ?_) (fun h => ?_) | refine fork_intro (fun h => ?_) (fun h => ?_)) <;> try (exfalso; first | omega | exact h rfl | (cases h; done)))
        | ((with_reducible first | refine r_ret ?_ | refine r_exit ?_ | refine r_skip ?_ | refine r_cond ?_ | refine r_region ?_ | show VX _ _ _ _ _ _ _ | show vstep _ _ _ _ _ | show vskip _ _ _ | show withV _ _); simp -dsimp -implicitDefEqProofs (maxSteps := 1000000) (disch := first | omega | (simp only [List.length_append, List.length_map, List.length_take, List.length_drop, List.length_cons, List.length_nil, Nat.zero_add, q1, q2, q3, q4, q5]; omega)) only [go_sem, Int.reduceToNat, Int.reducePow, Nat.reducePow, Int.reduceAdd, Int.reduceMul, Int.reduceSub, Int.reduceNeg, Nat.reduceAdd, Nat.reduceMul, Nat.reduceSub, Nat.reduceEqDiff, Nat.reduceLT, Nat.reduceLeDiff, q1, q2, q3, q4, q5])
        | ((with_reducible show False); omega)
        | ((first | (with_reducible refine pick_viewG default (by first | omega | (simp only [List.length_append, List.length_map, List.length_take, List.length_drop, List.length_cons, List.length_nil, Nat.zero_add, q1, q2, q3, q4, q5]; omega)) (by first | omega | (simp only [List.length_append, List.length_map, List.length_take, List.length_drop, List.length_cons, List.length_nil, Nat.zero_add, q1, q2, q3, q4, q5]; omega)) ?_) | (with_reducible refine pick_own default (by first | omega | (simp only [List.length_append, List.length_map, List.length_take, List.length_drop, List.length_cons, List.length_nil, Nat.zero_add, q1, q2, q3, q4, q5]; omega)) ?_) | (with_reducible refine And.intro (by first | decide | omega | assumption | (simp only [List.length_append, List.length_map, List.length_take, List.length_drop, List.length_cons, List.length_nil, Nat.zero_add, q1, q2, q3, q4, q5]; omega)) ?_) | ((with_reducible apply callK_pure); (first | exact c13 ⟨2, n, ps, vs⟩ (by dsimp only; omega) (by dsimp only; omega) | exact c12 ⟨2, n, ps, vs⟩ ⟨5, key, val, 0⟩ hs (by dsimp only; omega) (by dsimp only; omega) | exact c12 ⟨2, n, Pl.ins ps key val, vs⟩ ⟨4, key, 0, 0⟩ (sorted_pl.2 si) (by dsimp only; omega) (by dsimp only; omega) | exact c12 ⟨2, n, Pl.ins ps key val, vs⟩ ⟨6, key, 0, 0⟩ (sorted_pl.2 si) (by dsimp only; omega) (by dsimp only; omega) | exact c12 ⟨2, n, Pl.del (Pl.ins ps key val) key, vs⟩ ⟨4, key, 0, 0⟩ (sorted_pl.2 sd) (by dsimp only; omega) (by dsimp only; omega) | fail)) | ((with_reducible apply callF_lend); (first | exact c13 ⟨2, n, ps, vs⟩ (by dsimp only; omega) (by dsimp only; omega) | exact c12 ⟨2, n, ps, vs⟩ ⟨5, key, val, 0⟩ hs (by dsimp only; omega) (by dsimp only; omega) | exact c12 ⟨2, n, Pl.ins ps key val, vs⟩ ⟨4, key, 0, 0⟩ (sorted_pl.2 si) (by dsimp only; omega) (by dsimp only; omega) | exact c12 ⟨2, n, Pl.ins ps key val, vs⟩ ⟨6, key, 0, 0⟩ (sorted_pl.2 si) (by dsimp only; omega) (by dsimp only; omega) | exact c12 ⟨2, n, Pl.del (Pl.ins ps key val) key, vs⟩ ⟨4, key, 0, 0⟩ (sorted_pl.2 sd) (by dsimp only; omega) (by dsimp only; omega) | fail); rfl) | ((with_reducible apply callF_go); (first | exact c13 ⟨2, n, ps, vs⟩ (by dsimp only; omega) (by dsimp only; omega) | exact c12 ⟨2, n, ps, vs⟩ ⟨5, key, val, 0⟩ hs (by dsimp only; omega) (by dsimp only; omega) | exact c12 ⟨2, n, Pl.ins ps key val, vs⟩ ⟨4, key, 0, 0⟩ (sorted_pl.2 si) (by dsimp only; omega) (by dsimp only; omega) | exact c12 ⟨2, n, Pl.ins ps key val, vs⟩ ⟨6, key, 0, 0⟩ (sorted_pl.2 si) (by dsimp only; omega) (by dsimp only; omega) | exact c12 ⟨2, n, Pl.del (Pl.ins ps key val) key, vs⟩ ⟨4, key, 0, 0⟩ (sorted_pl.2 sd) (by dsimp only; omega) (by dsimp only; omega) | fail)) | fail); try simp -dsimp -implicitDefEqProofs (maxSteps := 1000000) (disch := first | omega | (simp only [List.length_append, List.length_map, List.length_take, List.length_drop, List.length_cons, List.length_nil, Nat.zero_add, q1, q2, q3, q4, q5]; omega)) only [go_sem, Int.reduceToNat, Int.reducePow, Nat.reducePow, Int.reduceAdd, Int.reduceMul, Int.reduceSub, Int.reduceNeg, Nat.reduceAdd, Nat.reduceMul, Nat.reduceSub, Nat.reduceEqDiff, Nat.reduceLT, Nat.reduceLeDiff, q1, q2, q3, q4, q5])
        | fail)
      refine r_loopA (α := Nat) [1, 11, 15, 88, 89] (fun j b => [(90, aI j)]) (fun j b => []) (fun j => []) (fun j => j ≤ ps.length) (fun j => ps.length - j) (0) ?h0_2 ?hs0_2 ?I_2 ?hI_2 ?round_2
      case hI_2 => intro x; simp -dsimp -implicitDefEqProofs (maxSteps := 1000000) (disch := first | omega | (simp only [List.length_append, List.length_map, List.length_take, List.length_drop, List.length_cons, List.length_nil, Nat.zero_add]; omega)) only [go_sem, Int.reduceToNat, Int.reducePow, Nat.reducePow, Int.reduceAdd, Int.reduceMul, Int.reduceSub, Int.reduceNeg, Nat.reduceAdd, Nat.reduceMul, Nat.reduceSub, Nat.reduceEqDiff, Nat.reduceLT, Nat.reduceLeDiff]; exact rfl
      case hs0_2 => refine wk_auto ?_; simp -dsimp -implicitDefEqProofs (maxSteps := 1000000) (disch := first | omega | (simp only [List.length_append, List.length_map, List.length_take, List.length_drop, List.length_cons, List.length_nil, Nat.zero_add]; omega)) only [go_sem, Int.reduceToNat, Int.reducePow, Nat.reducePow, Int.reduceAdd, Int.reduceMul, Int.reduceSub, Int.reduceNeg, Nat.reduceAdd, Nat.reduceMul, Nat.reduceSub, Nat.reduceEqDiff, Nat.reduceLT, Nat.reduceLeDiff]
      case h0_2 => omega
      case round_2 =>
        intro j hj1
        by_cases hj : j < ps.length
        · have hmem : ps.getD j default ∈ ps := by rw [List.getD_eq_getElem?_getD, List.getElem?_eq_getElem hj]; exact List.getElem_mem hj
          have lw := Pl.look_mem srt hmem
          by_cases hw : (ps.getD j default).1 = key
          · have e5 : applyM ⟨2, n, Pl.del (Pl.ins ps key val) key, vs⟩ ⟨4, (ps.getD j default).1, 0, 0⟩ = (⟨2, n, Pl.del (Pl.ins ps key val) key, vs⟩, ⟨0, false, 5⟩) := by rw [hw]; exact q4
            repeat' (first
              | (with_reducible first | refine r_seq ?_ | refine r_block ?_ | refine fork_not ?_ | refine fork_and ?_ | refine fork_or ?_ | refine chk_ok (by kernel_rfl) ?_)
              | ((with_reducible first | refine fork_dec (fun h => ?_) (fun h => ?_) | refine fork_eq (fun h => ?_) (fun h => ?_) | refine fork_ne (fun h => ?_) (fun h => ?_) | refine fork_intro (fun h => ?_) (fun h => ?_)) <;> try (exfalso; first | omega | exact h rfl | (cases h; done)))
              | ((with_reducible first | refine r_ret ?_ | refine r_exit ?_ | refine r_skip ?_ | refine r_cond ?_ | refine r_region ?_ | show VX _ _ _ _ _ _ _ | show vstep _ _ _ _ _ | show vskip _ _ _ | show withV _ _); simp -dsimp -implicitDefEqProofs (maxSteps := 1000000) (disch := first | omega | (simp only [List.length_append, List.length_map, List.length_take, List.length_drop, List.length_cons, List.length_nil, Nat.zero_add, e5]; omega)) only [go_sem, Int.reduceToNat, Int.reducePow, Nat.reducePow, Int.reduceAdd, Int.reduceMul, Int.reduceSub, Int.reduceNeg, Nat.reduceAdd, Nat.reduceMul, Nat.reduceSub, Nat.reduceEqDiff, Nat.reduceLT, Nat.reduceLeDiff, e5])
              | ((with_reducible show False); omega)
              | ((first | (with_reducible refine pick_viewG default (by first | omega | (simp only [List.length_append, List.length_map, List.length_take, List.length_drop, List.length_cons, List.length_nil, Nat.zero_add, e5]; omega)) (by first | omega | (simp only [List.length_append, List.length_map, List.length_take, List.length_drop, List.length_cons, List.length_nil, Nat.zero_add, e5]; omega)) ?_) | (with_reducible refine pick_own default (by first | omega | (simp only [List.length_append, List.length_map, List.length_take, List.length_drop, List.length_cons, List.length_nil, Nat.zero_add, e5]; omega)) ?_) | (with_reducible refine And.intro (by first | decide | omega | assumption | (simp only [List.length_append, List.length_map, List.length_take, List.length_drop, List.length_cons, List.length_nil, Nat.zero_add, e5]; omega)) ?_) | ((with_reducible apply callK_pure); (exact c12 ⟨2, n, Pl.del (Pl.ins ps key val) key, vs⟩ ⟨4, (ps.getD j default).1, 0, 0⟩ (sorted_pl.2 sd) (by dsimp only; omega) (by dsimp only; omega))) | ((with_reducible apply callF_lend); (exact c12 ⟨2, n, Pl.del (Pl.ins ps key val) key, vs⟩ ⟨4, (ps.getD j default).1, 0, 0⟩ (sorted_pl.2 sd) (by dsimp only; omega) (by dsimp only; omega)); rfl) | ((with_reducible apply callF_go); (exact c12 ⟨2, n, Pl.del (Pl.ins ps key val) key, vs⟩ ⟨4, (ps.getD j default).1, 0, 0⟩ (sorted_pl.2 sd) (by dsimp only; omega) (by dsimp only; omega))) | fail); try simp -dsimp -implicitDefEqProofs (maxSteps := 1000000) (disch := first | omega | (simp only [List.length_append, List.length_map, List.length_take, List.length_drop, List.length_cons, List.length_nil, Nat.zero_add, e5]; omega)) only [go_sem, Int.reduceToNat, Int.reducePow, Nat.reducePow, Int.reduceAdd, Int.reduceMul, Int.reduceSub, Int.reduceNeg, Nat.reduceAdd, Nat.reduceMul, Nat.reduceSub, Nat.reduceEqDiff, Nat.reduceLT, Nat.reduceLeDiff, e5])
              | fail)
            all_goals (refine loopQ_next (j + 1) ?_ ?_ ?_; (omega); (show _ < _; omega); (simp -dsimp -implicitDefEqProofs (maxSteps := 1000000) (disch := first | omega | (simp only [List.length_append, List.length_map, List.length_take, List.length_drop, List.length_cons, List.length_nil, Nat.zero_add]; omega)) only [go_sem, Int.reduceToNat, Int.reducePow, Nat.reducePow, Int.reduceAdd, Int.reduceMul, Int.reduceSub, Int.reduceNeg, Nat.reduceAdd, Nat.reduceMul, Nat.reduceSub, Nat.reduceEqDiff, Nat.reduceLT, Nat.reduceLeDiff]; try trivial))
          · have e5 : applyM ⟨2, n, Pl.del (Pl.ins ps key val) key, vs⟩ ⟨4, (ps.getD j default).1, 0, 0⟩ = (⟨2, n, Pl.del (Pl.ins ps key val) key, vs⟩, ⟨(ps.getD j default).2, true, 0⟩) := by rw [app_get, Pl.del_ins_other srt hw, lw]; rfl
            repeat' (first
              | (with_reducible first | refine r_seq ?_ | refine r_block ?_ | refine fork_not ?_ | refine fork_and ?_ | refine fork_or ?_ | refine chk_ok (by kernel_rfl) ?_)
              | ((with_reducible first | refine fork_dec (fun h => ?_) (fun h => ?_) | refine fork_eq (fun h => ?_) (fun h => ?_) | refine fork_ne (fun h => ?_) (fun h => ?_) | refine fork_intro (fun h => ?_) (fun h => ?_)) <;> try (exfalso; first | omega | exact h rfl | (cases h; done)))
              | ((with_reducible first | refine r_ret ?_ | refine r_exit ?_ | refine r_skip ?_ | refine r_cond ?_ | refine r_region ?_ | show VX _ _ _ _ _ _ _ | show vstep _ _ _ _ _ | show vskip _ _ _ | show withV _ _); simp -dsimp -implicitDefEqProofs (maxSteps := 1000000) (disch := first | omega | (simp only [List.length_append, List.length_map, List.length_take, List.length_drop, List.length_cons, List.length_nil, Nat.zero_add, e5]; omega)) only [go_sem, Int.reduceToNat, Int.reducePow, Nat.reducePow, Int.reduceAdd, Int.reduceMul, Int.reduceSub, Int.reduceNeg, Nat.reduceAdd, Nat.reduceMul, Nat.reduceSub, Nat.reduceEqDiff, Nat.reduceLT, Nat.reduceLeDiff, e5])
              | ((with_reducible show False); omega)
              | ((first | (with_reducible refine pick_viewG default (by first | omega | (simp only [List.length_append, List.length_map, List.length_take, List.length_drop, List.length_cons, List.length_nil, Nat.zero_add, e5]; omega)) (by first | omega | (simp only [List.length_append, List.length_map, List.length_take, List.length_drop, List.length_cons, List.length_nil, Nat.zero_add, e5]; omega)) ?_) | (with_reducible refine pick_own default (by first | omega | (simp only [List.length_append, List.length_map, List.length_take, List.length_drop, List.length_cons, List.length_nil, Nat.zero_add, e5]; omega)) ?_) | (with_reducible refine And.intro (by first | decide | omega | assumption | (simp only [List.length_append, List.length_map, List.length_take, List.length_drop, List.length_cons, List.length_nil, Nat.zero_add, e5]; omega)) ?_) | ((with_reducible apply callK_pure); (exact c12 ⟨2, n, Pl.del (Pl.ins ps key val) key, vs⟩ ⟨4, (ps.getD j default).1, 0, 0⟩ (sorted_pl.2 sd) (by dsimp only; omega) (by dsimp only; omega))) | ((with_reducible apply callF_lend); (exact c12 ⟨2, n, Pl.del (Pl.ins ps key val) key, vs⟩ ⟨4, (ps.getD j default).1, 0, 0⟩ (sorted_pl.2 sd) (by dsimp only; omega) (by dsimp only; omega)); rfl) | ((with_reducible apply callF_go); (exact c12 ⟨2, n, Pl.del (Pl.ins ps key val) key, vs⟩ ⟨4, (ps.getD j default).1, 0, 0⟩ (sorted_pl.2 sd) (by dsimp only; omega) (by dsimp only; omega))) | fail); try simp -dsimp -implicitDefEqProofs (maxSteps := 1000000) (disch := first | omega | (simp only [List.length_append, List.length_map, List.length_take, List.length_drop, List.length_cons, List.length_nil, Nat.zero_add, e5]; omega)) only [go_sem, Int.reduceToNat, Int.reducePow, Nat.reducePow, Int.reduceAdd, Int.reduceMul, Int.reduceSub, Int.reduceNeg, Nat.reduceAdd, Nat.reduceMul, Nat.reduceSub, Nat.reduceEqDiff, Nat.reduceLT, Nat.reduceLeDiff, e5])
              | fail)
            all_goals (refine loopQ_next (j + 1) ?_ ?_ ?_; (omega); (show _ < _; omega); (simp -dsimp -implicitDefEqProofs (maxSteps := 1000000) (disch := first | omega | (simp only [List.length_append, List.length_map, List.length_take, List.length_drop, List.length_cons, List.length_nil, Nat.zero_add]; omega)) only [go_sem, Int.reduceToNat, Int.reducePow, Nat.reducePow, Int.reduceAdd, Int.reduceMul, Int.reduceSub, Int.reduceNeg, Nat.reduceAdd, Nat.reduceMul, Nat.reduceSub, Nat.reduceEqDiff, Nat.reduceLT, Nat.reduceLeDiff]; try trivial))
        · repeat' (first
            | (with_reducible first | refine r_seq ?_ | refine r_block ?_ | refine fork_not ?_ | refine fork_and ?_ | refine fork_or ?_ | refine chk_ok (by kernel_rfl) ?_)
            | ((with_reducible first | refine fork_dec (fun h => ?_) (fun h => ?_) | refine fork_eq (fun h => ?_) (fun h => ?_) | refine fork_ne (fun h => ?_) (fun h => ?_) | refine fork_intro (fun h => ?_) (fun h => ?_)) <;> try (exfalso; first | omega | exact h rfl | (cases h; done)))
            | ((with_reducible first | refine r_ret ?_ | refine r_exit ?_ | refine r_skip ?_ | refine r_cond ?_ | refine r_region ?_ | show VX _ _ _ _ _ _ _ | show vstep _ _ _ _ _ | show vskip _ _ _ | show withV _ _); simp -dsimp -implicitDefEqProofs (maxSteps := 1000000) (disch := first | omega | (simp only [List.length_append, List.length_map, List.length_take, List.length_drop, List.length_cons, List.length_nil, Nat.zero_add, q6]; omega)) only [go_sem, Int.reduceToNat, Int.reducePow, Nat.reducePow, Int.reduceAdd, Int.reduceMul, Int.reduceSub, Int.reduceNeg, Nat.reduceAdd, Nat.reduceMul, Nat.reduceSub, Nat.reduceEqDiff, Nat.reduceLT, Nat.reduceLeDiff, q6])
            | ((with_reducible show False); omega)
            | ((first | (with_reducible refine pick_viewG default (by first | omega | (simp only [List.length_append, List.length_map, List.length_take, List.length_drop, List.length_cons, List.length_nil, Nat.zero_add, q6]; omega)) (by first | omega | (simp only [List.length_append, List.length_map, List.length_take, List.length_drop, List.length_cons, List.length_nil, Nat.zero_add, q6]; omega)) ?_) | (with_reducible refine pick_own default (by first | omega | (simp only [List.length_append, List.length_map, List.length_take, List.length_drop, List.length_cons, List.length_nil, Nat.zero_add, q6]; omega)) ?_) | (with_reducible refine And.intro (by first | decide | omega | assumption | (simp only [List.length_append, List.length_map, List.length_take, List.length_drop, List.length_cons, List.length_nil, Nat.zero_add, q6]; omega)) ?_) | ((with_reducible apply callK_pure); (first | exact c13 ⟨2, n, Pl.ins ps key val, vs⟩ (by dsimp only; omega) (by dsimp only; omega) | exact c25 _ (sorted_pl.2 si) | fail)) | ((with_reducible apply callF_lend); (first | exact c13 ⟨2, n, Pl.ins ps key val, vs⟩ (by dsimp only; omega) (by dsimp only; omega) | exact c25 _ (sorted_pl.2 si) | fail); rfl) | ((with_reducible apply callF_go); (first | exact c13 ⟨2, n, Pl.ins ps key val, vs⟩ (by dsimp only; omega) (by dsimp only; omega) | exact c25 _ (sorted_pl.2 si) | fail)) | fail); try simp -dsimp -implicitDefEqProofs (maxSteps := 1000000) (disch := first | omega | (simp only [List.length_append, List.length_map, List.length_take, List.length_drop, List.length_cons, List.length_nil, Nat.zero_add, q6]; omega)) only [go_sem, Int.reduceToNat, Int.reducePow, Nat.reducePow, Int.reduceAdd, Int.reduceMul, Int.reduceSub, Int.reduceNeg, Nat.reduceAdd, Nat.reduceMul, Nat.reduceSub, Nat.reduceEqDiff, Nat.reduceLT, Nat.reduceLeDiff, q6])
            | fail)
end Go.Proofs.Ytjhmcjogkjecaaa
