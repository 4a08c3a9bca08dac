/- Contracts of functions of this program, and the plain facts that they rest on. No conditions. -/
import Derived.Test.YtjhmcjogkjecaaaD12
set_option linter.unusedSimpArgs false
set_option linter.unusedVariables false
namespace Go.Proofs.Ytjhmcjogkjecaaa
open Go Go.Ab
attribute [local irreducible] callK callF loopQ vstep vskip pickE hideP
theorem kind_range (n : Int) (h : 0 ≤ n) : 0 ≤ kindM n ∧ kindM n ≤ 5 := by
  unfold kindM; rw [Int.tmod_eq_emod_of_nonneg h]; omega
theorem enum_of_enu : ∀ (l : List (Int × Int)) (i : Nat), enuB i l = true → enumI i (l.map (·.2)) = l
  | [], _, _ => rfl
  | p :: t, i, h => by
    simp only [enuB, Bool.and_eq_true, decide_eq_true_eq] at h
    simp only [List.map_cons, enumI, enum_of_enu t (i + 1) h.2]
    rw [← h.1]
/-- From of the program is From of the reference. -/
structure FromOk (k : Int) (l : List (Int × Int)) : Prop where
  err : (fromM k l).2 = (fromR k l).2
  kind : (fromM k l).1.k = (fromR k l).1.1
  cont : contM (fromM k l).1 = (fromR k l).1.2
  range : 0 ≤ (fromM k l).1.k ∧ (fromM k l).1.k ≤ 255
  ps : (fromM k l).1.ps.length ≤ l.length
  vs : (fromM k l).1.vs.length ≤ l.length
  len : (contM (fromM k l).1).length ≤ l.length + 1
theorem from_ok (k : Int) (l : List (Int × Int)) (h : 0 ≤ k ∧ k ≤ 5) : FromOk k l := by
  have hz : contM ⟨0, 0, [], []⟩ = [] := rfl
  by_cases e2 : k = 2
  · subst e2
    cases ha : adjB l
    · have e1 : fromM 2 l = (⟨0, 0, [], []⟩, 11) := by simp [fromM, ha]
      have e3 : fromR 2 l = ((0, []), 11) := by simp [fromR, ha]
      constructor <;> rw [e1] <;> simp [e3, hz]
    · have e1 : fromM 2 l = (⟨2, 0, l, []⟩, 0) := by simp [fromM, ha]
      have e3 : fromR 2 l = ((2, l), 0) := by simp [fromR, ha]
      have e4 : contM ⟨2, 0, l, []⟩ = l := rfl
      constructor <;> rw [e1] <;> simp [e3, e4]
  by_cases e3 : k = 3
  · subst e3
    cases ha : enuB 0 l
    · have e1 : fromM 3 l = (⟨0, 0, [], []⟩, 11) := by simp [fromM, ha]
      have e3 : fromR 3 l = ((0, []), 11) := by simp [fromR, ha]
      constructor <;> rw [e1] <;> simp [e3, hz]
    · have e1 : fromM 3 l = (⟨3, 0, [], l.map (·.2)⟩, 0) := by simp [fromM, ha]
      have e3 : fromR 3 l = ((3, l), 0) := by simp [fromR, ha]
      have e4 : contM ⟨3, 0, [], l.map (·.2)⟩ = l := by simp only [contM]; rw [if_neg (by omega), if_neg (by omega)]; exact enum_of_enu l 0 ha
      constructor <;> rw [e1] <;> simp [e3, e4]
  by_cases e1 : k = 1 ∨ k = 4
  · have hr : ¬ (k < 1 ∨ 4 < k) := by omega
    by_cases hl : l.length = 1
    · match l, hl with
      | [p], _ =>
        by_cases hp : p.1 = 0
        · have e5 : fromM k [p] = (⟨k, p.2, [], []⟩, 0) := by simp [fromM, e1, hp]
          have e6 : fromR k [p] = ((k, [p]), 0) := by simp [fromR, hr, e2, enuB, hp]
          have e7 : contM ⟨k, p.2, [], []⟩ = [p] := by simp only [contM, if_pos e1]; rw [← hp]
          constructor <;> rw [e5] <;> simp [e6, e7] <;> omega
        · have e5 : fromM k [p] = (⟨0, 0, [], []⟩, 11) := by simp [fromM, e1, hp]
          have e6 : fromR k [p] = ((0, []), 11) := by simp [fromR, hr, e2, enuB, hp]
          constructor <;> rw [e5] <;> simp [e6, hz]
    · have e5 : fromM k l = (⟨0, 0, [], []⟩, 11) := by simp [fromM, e1, hl]
      have e6 : fromR k l = ((0, []), 11) := by simp [fromR, hr, e1, hl]
      constructor <;> rw [e5] <;> simp [e6, hz]
  · have e5 : fromM k l = (⟨0, 0, [], []⟩, 1) := by simp [fromM, e1, e2, e3]
    have e6 : fromR k l = ((0, []), 1) := by simp only [fromR]; rw [if_pos (by omega)]
    constructor <;> rw [e5] <;> simp [e6, hz]
set_option maxRecDepth 100000 in
set_option maxHeartbeats 4000000 in
theorem c4 (n : Int) (l : List (Int × Int)) (h0 : 0 ≤ n ∧ n ≤ 255) : PCalls Try.prog 4 [.v (.int .u8 n), .view 2 (l.map eP)] (.v (.bool true)) := by
  refine pcalls_facts ⟨_, rfl, rfl, by decide⟩ fun hf => ?_
  simp only [go_sem, big] at hf
  refine pcalls_of (E := E) (fn := Try.f4) 40 [.tmp 4] rfl rfl rfl rfl (by decide) rfl ?_
  have hk := kind_range n h0.1
  have hl : (l.take (min (l.length : Int) 20).toNat).length ≤ 20 := by simp; omega
  have ok := from_ok (kindM n) (l.take (min (l.length : Int) 20).toNat) hk
  have h1 := ok.ps
  have h2 := ok.vs
  have h3 := ok.range
  have h4 := ok.len
  have h5 := ok.kind
  have h6 := ok.cont
  have h7 := ok.err
  repeat' (first
    | (with_reducible first | refine r_seq ?_ | refine r_block ?_ | refine fork_not ?_ | refine fork_and ?_ | refine fork_or ?_ | refine chk_ok (by kernel_rfl) ?_)
    | ((with_reducible first | refine fork_dec (fun h => ?_) (fun h => ?_) | refine fork_eq (fun h => ?_) (fun h => ?_) | refine fork_ne (fun h => ?_) (fun h => ?_) | refine fork_intro (fun h => ?_) (fun h => ?_)) <;> try (exfalso; first | omega | exact h rfl | (cases h; done)))
    | ((with_reducible first | refine r_ret ?_ | refine r_exit ?_ | refine r_skip ?_ | refine r_cond ?_ | refine r_region ?_ | show VX _ _ _ _ _ _ _ | show vstep _ _ _ _ _ | show vskip _ _ _ | show withV _ _); simp -dsimp -implicitDefEqProofs (maxSteps := 1000000) (disch := first | omega | (simp only [List.length_append, List.length_map, List.length_take, List.length_drop, List.length_cons, List.length_nil, Nat.zero_add]; omega)) only [go_sem, Int.reduceToNat, Int.reducePow, Nat.reducePow, Int.reduceAdd, Int.reduceMul, Int.reduceSub, Int.reduceNeg, Nat.reduceAdd, Nat.reduceMul, Nat.reduceSub, Nat.reduceEqDiff, Nat.reduceLT, Nat.reduceLeDiff])
    | ((with_reducible show False); omega)
    | ((first | (with_reducible refine pick_viewG default (by first | omega | (simp only [List.length_append, List.length_map, List.length_take, List.length_drop, List.length_cons, List.length_nil, Nat.zero_add]; omega)) (by first | omega | (simp only [List.length_append, List.length_map, List.length_take, List.length_drop, List.length_cons, List.length_nil, Nat.zero_add]; omega)) ?_) | (with_reducible refine pick_own default (by first | omega | (simp only [List.length_append, List.length_map, List.length_take, List.length_drop, List.length_cons, List.length_nil, Nat.zero_add]; omega)) ?_) | (with_reducible refine And.intro (by first | decide | omega | assumption | (simp only [List.length_append, List.length_map, List.length_take, List.length_drop, List.length_cons, List.length_nil, Nat.zero_add]; omega)) ?_) | ((with_reducible apply callK_pure); (first | exact c10 | exact c15 n | exact c14 _ _ (by omega) | exact c17 _ (by omega) | exact c16 _ _ (by omega) | exact c18 _ _ _ (by omega) (by omega) (by omega) (by omega) | fail)) | ((with_reducible apply callF_lend); (first | exact c10 | exact c15 n | exact c14 _ _ (by omega) | exact c17 _ (by omega) | exact c16 _ _ (by omega) | exact c18 _ _ _ (by omega) (by omega) (by omega) (by omega) | fail); rfl) | ((with_reducible apply callF_go); (first | exact c10 | exact c15 n | exact c14 _ _ (by omega) | exact c17 _ (by omega) | exact c16 _ _ (by omega) | exact c18 _ _ _ (by omega) (by omega) (by omega) (by omega) | fail)) | fail); try simp -dsimp -implicitDefEqProofs (maxSteps := 1000000) (disch := first | omega | (simp only [List.length_append, List.length_map, List.length_take, List.length_drop, List.length_cons, List.length_nil, Nat.zero_add]; omega)) only [go_sem, Int.reduceToNat, Int.reducePow, Nat.reducePow, Int.reduceAdd, Int.reduceMul, Int.reduceSub, Int.reduceNeg, Nat.reduceAdd, Nat.reduceMul, Nat.reduceSub, Nat.reduceEqDiff, Nat.reduceLT, Nat.reduceLeDiff])
    | fail)
  all_goals simp [h5, h6, h7]
end Go.Proofs.Ytjhmcjogkjecaaa
