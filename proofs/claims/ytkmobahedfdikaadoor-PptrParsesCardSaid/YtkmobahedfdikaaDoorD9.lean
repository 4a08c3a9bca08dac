/- Contracts of functions of this program, and the plain facts that they rest on. No conditions. -/
import Derived.Test.YtkmobahedfdikaaDoorD8
set_option linter.unusedSimpArgs false
set_option linter.unusedVariables false
namespace Go.Proofs.YtkmobahedfdikaaDoor
open Go Go.Ab
attribute [local irreducible] callK callF loopQ vstep vskip pickE hideP
open Go.RowKit
set_option maxRecDepth 100000
attribute [local go_sem] toList_bs ext_bs beq_dec bs_size bs_list bs_inj app_bs byteAt_bs errP
/-- A text of three numerals. -/
def three (k o g : Nat) : List UInt8 := Lib.decDigits k ++ 58 :: (Lib.decDigits o ++ 35 :: Lib.decDigits g)
structure Acc (s : List UInt8) (k o g : Nat) : Prop where
  hs : s = three k o g
  hk : k ≤ 255
  ho : o ≤ 18446744073709551615
  hg : g ≤ 65535
  hm : (makeM o g k).2 = 0
theorem acc_r {s : List UInt8} {k o g : Nat} (h : Acc s k o g) : k ≤ 127 ∧ o ≤ 34359738360 := by
  have hm := h.hm
  unfold makeM at hm
  split at hm
  · simp at hm
  · split at hm
    · simp at hm
    · omega
theorem not_dig {x : UInt8} (h : ¬ Dig x) {l : List UInt8} (hd : ∀ c, c ∈ l → Dig c) : x ∉ l := fun hx => h (hd x hx)
theorem d58 : ¬ Dig 58 := by decide
theorem d35 : ¬ Dig 35 := by decide
theorem d45 : ¬ Dig 45 := by decide
theorem three_ne (k o g : Nat) : ¬ three k o g = [45] := fun h => by
  have h1 : (45 : UInt8) ∈ three k o g := by rw [h]; simp
  unfold three at h1
  rcases List.mem_append.1 h1 with h1 | h1
  · exact not_dig d45 (dec_val k).2 h1
  · rcases List.mem_cons.1 h1 with h1 | h1
    · exact absurd h1 (by decide)
    · rcases List.mem_append.1 h1 with h1 | h1
      · exact not_dig d45 (dec_val o).2 h1
      · rcases List.mem_cons.1 h1 with h1 | h1
        · exact absurd h1 (by decide)
        · exact not_dig d45 (dec_val g).2 h1
theorem makeM_2 (o g k : Int) : (makeM o g k).2 = 0 ∨ ¬ (makeM o g k).2 = 0 := by omega
set_option maxRecDepth 100000 in
set_option maxHeartbeats 4000000 in
theorem c28n  : PCalls Tryd.prog 28 [.v (.string (bs [45]))] (.tup [.v (.int .u64 0), .v (.int .i64 0)]) := by
  refine pcalls_of (E := E) (fn := Tryd.f28) 77 [.tmp 2, .tmp 3] rfl rfl rfl rfl (by decide) rfl ?_
  repeat' (first
    | (with_reducible first | refine r_seq ?_ | refine r_block ?_ | refine fork_not ?_ | refine fork_and ?_ | refine fork_or ?_ | refine chk_ok (by kernel_rfl) ?_)
    | ((with_reducible first | refine fork_dec ?_ ?_ | refine fork_eq ?_ ?_ | refine fork_ne ?_ ?_ | refine fork_intro ?_ ?_) <;> intro h <;> try (exfalso; first | omega | exact h rfl | (revert h; decide) | (cases h; done)))
    | ((with_reducible show False); omega)
    | ((first | (with_reducible first | refine r_exit ?_ | refine r_skip ?_ | refine r_cond ?_ | refine r_region ?_ | show VX _ _ _ _ _ _ _ | show vstep _ _ _ _ _ | show vskip _ _ _ | show withV _ _) | ((with_reducible show endA _ _ _ _ _ _ _); simp -implicitDefEqProofs only [endA])); simp -dsimp -implicitDefEqProofs (maxSteps := 1000000) (disch := first | omega | (simp only [LN]; omega)) only [go_sem, Int.reduceToNat, Int.reducePow, Nat.reducePow, Int.reduceAdd, Int.reduceMul, Int.reduceSub, Int.reduceNeg, Nat.reduceAdd, Nat.reduceMul, Nat.reduceSub, Nat.reduceEqDiff, Nat.reduceLT, Nat.reduceLeDiff])
    | ((first | (with_reducible refine r_ret ?_) | (with_reducible refine pick_viewG default (by first | omega | (simp only [LN]; omega)) (by first | omega | (simp only [LN]; omega)) ?_) | (with_reducible refine pick_own default (by first | omega | (simp only [LN]; omega)) ?_) | (with_reducible refine And.intro (by first | decide | omega | assumption | (simp only [LN]; omega)) ?_) | ((with_reducible show pickE _ _ _); first | refine pickE_intro _ ⟨by omega, by rfl⟩ ?_ | refine pickE_intro _ (by rfl) ?_) | fail); try simp -dsimp -implicitDefEqProofs (maxSteps := 1000000) (disch := first | omega | (simp only [LN]; omega)) only [go_sem, Int.reduceToNat, Int.reducePow, Nat.reducePow, Int.reduceAdd, Int.reduceMul, Int.reduceSub, Int.reduceNeg, Nat.reduceAdd, Nat.reduceMul, Nat.reduceSub, Nat.reduceEqDiff, Nat.reduceLT, Nat.reduceLeDiff])
    | fail)
  all_goals first | rfl | omega | (simp at *; done) | trace_state
set_option maxRecDepth 100000 in
set_option maxHeartbeats 4000000 in
theorem c28a (s : List UInt8) (hl : s.length ≤ 100000) (k o g : Nat) (h : Acc s k o g) : PCalls Tryd.prog 28 [.v (.string (bs s))] (.tup [.v (.int .u64 (makeM o g k).1), .v (.int .i64 0)]) := by
  refine pcalls_of (E := E) (fn := Tryd.f28) 77 [.tmp 2, .tmp 3] rfl rfl rfl rfl (by decide) rfl ?_
  have hs := h.hs
  have hne : ¬ s = [45] := by rw [hs]; exact three_ne k o g
  subst hs
  have hm := h.hm
  have hk := h.hk
  have ho := h.ho
  have hg := h.hg
  have hl2 := hl
  unfold three at hl2 hne
  simp only [List.length_append, List.length_cons] at hl2
  have c1 := c33h (Lib.decDigits k) (Lib.decDigits o ++ 35 :: Lib.decDigits g) 58 (not_dig d58 (dec_val k).2) (by simp; omega)
  have c2 := c33h (Lib.decDigits o) (Lib.decDigits g) 35 (not_dig d35 (dec_val o).2) (by omega)
  have n1 := c34ok 8 (.inl rfl) (Lib.decDigits k) (by omega) k (numR_ok (by decide) (by omega))
  have n2 := c34ok 64 (.inr (.inr rfl)) (Lib.decDigits o) (by omega) o (numR_ok (by decide) (by omega))
  have n3 := c34ok 16 (.inr (.inl rfl)) (Lib.decDigits g) (by omega) g (numR_ok (by decide) (by omega))
  have w1 : IntKind.u16.wrap (g : Int) = g := by rw [wr16]; omega
  have w2 : IntKind.u8.wrap (k : Int) = k := by rw [wr8]; omega
  have cm := c19 o g k (by omega) (by omega) (by omega)
  rw [hm] at cm
  repeat' (first
    | (with_reducible first | refine r_seq ?_ | refine r_block ?_ | refine fork_not ?_ | refine fork_and ?_ | refine fork_or ?_ | refine chk_ok (by kernel_rfl) ?_)
    | ((with_reducible first | refine fork_dec ?_ ?_ | refine fork_eq ?_ ?_ | refine fork_ne ?_ ?_ | refine fork_intro ?_ ?_) <;> intro h <;> try (exfalso; first | omega | exact h rfl | (revert h; decide) | (cases h; done)))
    | ((with_reducible show False); omega)
    | ((first | (with_reducible first | refine r_exit ?_ | refine r_skip ?_ | refine r_cond ?_ | refine r_region ?_ | show VX _ _ _ _ _ _ _ | show vstep _ _ _ _ _ | show vskip _ _ _ | show withV _ _) | ((with_reducible show endA _ _ _ _ _ _ _); simp -implicitDefEqProofs only [endA])); simp -dsimp -implicitDefEqProofs (maxSteps := 1000000) (disch := first | omega | (simp only [LN, three, hne, w1, w2]; omega)) only [go_sem, Int.reduceToNat, Int.reducePow, Nat.reducePow, Int.reduceAdd, Int.reduceMul, Int.reduceSub, Int.reduceNeg, Nat.reduceAdd, Nat.reduceMul, Nat.reduceSub, Nat.reduceEqDiff, Nat.reduceLT, Nat.reduceLeDiff, three, hne, w1, w2])
    | ((first | (with_reducible refine r_ret ?_) | (with_reducible refine pick_viewG default (by first | omega | (simp only [LN, three, hne, w1, w2]; omega)) (by first | omega | (simp only [LN, three, hne, w1, w2]; omega)) ?_) | (with_reducible refine pick_own default (by first | omega | (simp only [LN, three, hne, w1, w2]; omega)) ?_) | (with_reducible refine And.intro (by first | decide | omega | assumption | (simp only [LN, three, hne, w1, w2]; omega)) ?_) | ((with_reducible apply callK_pure); (first | exact c1 | exact c2 | exact n1 | exact n2 | exact n3 | exact cm | fail)) | ((with_reducible apply callF_lend); (first | exact c1 | exact c2 | exact n1 | exact n2 | exact n3 | exact cm | fail); rfl) | ((with_reducible apply callF_go); (first | exact c1 | exact c2 | exact n1 | exact n2 | exact n3 | exact cm | fail)) | ((with_reducible show pickE _ _ _); first | refine pickE_intro _ ⟨by omega, by rfl⟩ ?_ | refine pickE_intro _ (by rfl) ?_) | fail); try simp -dsimp -implicitDefEqProofs (maxSteps := 1000000) (disch := first | omega | (simp only [LN, three, hne, w1, w2]; omega)) only [go_sem, Int.reduceToNat, Int.reducePow, Nat.reducePow, Int.reduceAdd, Int.reduceMul, Int.reduceSub, Int.reduceNeg, Nat.reduceAdd, Nat.reduceMul, Nat.reduceSub, Nat.reduceEqDiff, Nat.reduceLT, Nat.reduceLeDiff, three, hne, w1, w2])
    | fail)
  all_goals first | rfl | omega | (simp at *; done) | trace_state
end Go.Proofs.YtkmobahedfdikaaDoor
