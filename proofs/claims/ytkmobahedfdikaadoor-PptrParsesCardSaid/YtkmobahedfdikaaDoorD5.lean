/- Contracts of functions of this program, and the plain facts that they rest on. No conditions. -/
import Derived.Test.YtkmobahedfdikaaDoorD4
set_option linter.unusedSimpArgs false
set_option linter.unusedVariables false
namespace Go.Proofs.YtkmobahedfdikaaDoor
open Go Go.Ab
attribute [local irreducible] callK callF loopQ vstep vskip pickE hideP
/-- A pointer and its parts. -/
structure Ptr (q off gen kind : Int) : Prop where
  r : 0 ≤ q ∧ q ≤ M64
  ne : ¬ q = 0
  off : offM q = off
  gen : genM q = gen
  kind : kindM q = kind
  formed : formedM q = true
theorem make_ok {off gen kind : Int} (h0 : 0 ≤ off) (h1 : 0 ≤ gen ∧ gen ≤ 65535) (h2 : 0 ≤ kind ∧ kind ≤ 255) (h : (makeM off gen kind).2 = 0) :
    ∃ q, makeM off gen kind = (q, 0) ∧ Ptr q off gen kind ∧ 8 ≤ off ∧ off ≤ 34359738360 ∧ off % 8 = 0 := by
  by_cases hb : off = 0 ∨ ¬ off % 8 = 0 ∨ gen = 0 ∨ kind = 0 ∨ 127 < kind
  · rw [make1 hb] at h; simp at h
  · by_cases hc : 34359738360 < off
    · rw [make2 hb hc] at h; simp at h
    · refine ⟨_, make3 hb hc, ?_, by omega, by omega, by omega⟩
      have e1 : offM (off / 8 + gen * 4294967296 + kind * 281474976710656) = off := by unfold offM; omega
      have e2 : genM (off / 8 + gen * 4294967296 + kind * 281474976710656) = gen := by unfold genM; omega
      have e3 : kindM (off / 8 + gen * 4294967296 + kind * 281474976710656) = kind := by unfold kindM; omega
      refine ⟨⟨by omega, by simp only [M64]; omega⟩, by omega, e1, e2, e3, ?_⟩
      simp only [formedM, e1, e2, e3, decide_eq_true_eq]
      omega
theorem make_bad {off gen kind : Int} (h : ¬ (makeM off gen kind).2 = 0) : (makeM off gen kind).1 = 0 := by
  by_cases hb : off = 0 ∨ ¬ off % 8 = 0 ∨ gen = 0 ∨ kind = 0 ∨ 127 < kind
  · rw [make1 hb]
  · by_cases hc : 34359738360 < off
    · rw [make2 hb hc]
    · rw [make3 hb hc] at h; simp at h
theorem formed_make {p : Int} (h0 : 0 ≤ p) (hf : formedM p = true) : makeM (offM p) (genM p) (kindM p) = (p, 0) ∧ 8 ≤ offM p := by
  obtain ⟨h1, h2⟩ := (made h0).1 hf
  obtain ⟨q, e, _, h3, _⟩ := make_ok (off_r p).1 (gen_r p) (kind_r p) h1
  rw [e] at h2 ⊢
  exact ⟨by rw [h2], h3⟩
theorem reloc_ok {p d : Int} (h0 : 0 ≤ p) (h : (relocM p d).2 = 0) :
    ∃ q, relocM p d = (q, 0) ∧ Ptr q (offM p + d) (genM p) (kindM p) ∧ 8 ≤ offM p + d ∧ offM p + d ≤ 34359738360 ∧ d % 8 = 0 ∧ formedM p = true ∧ 8 ≤ offM p := by
  by_cases hf : formedM p = false ∨ ¬ d % 8 = 0
  · have : relocM p d = (0, 1) := by unfold relocM; rw [if_pos hf]
    rw [this] at h; simp at h
  by_cases hr : offM p + d < 8 ∨ 34359738360 < offM p + d
  · have : relocM p d = (0, 2) := by unfold relocM; rw [if_neg hf, if_pos hr]
    rw [this] at h; simp at h
  have e : relocM p d = makeM (offM p + d) (genM p) (kindM p) := by unfold relocM; rw [if_neg hf, if_neg hr]
  rw [e] at h ⊢
  obtain ⟨q, e1, e2, _⟩ := make_ok (by omega) (gen_r p) (kind_r p) h
  have hf' : formedM p = true := by
    cases hh : formedM p
    · exact absurd (.inl hh) hf
    · rfl
  exact ⟨q, e1, e2, by omega, by omega, by omega, hf', (formed_make h0 hf').2⟩
theorem reloc_back {p d q : Int} (h0 : 0 ≤ p) (hq : Ptr q (offM p + d) (genM p) (kindM p)) (hd : d % 8 = 0) (hf : formedM p = true) : relocM q (-d) = (p, 0) := by
  have h1 := off_r p
  obtain ⟨h2, h3⟩ := formed_make h0 hf
  unfold relocM
  rw [if_neg (by rw [hq.formed]; simp; omega), hq.off, hq.gen, hq.kind, if_neg (by omega), show offM p + d + -d = offM p by omega]
  exact h2
theorem reloc_two {p a b q : Int} (hq : Ptr q (offM p + a) (genM p) (kindM p)) (ha : a % 8 = 0) (hf : formedM p = true) : relocM q b = relocM p (a + b) := by
  unfold relocM
  rw [hq.formed, hf, hq.off, hq.gen, hq.kind, show offM p + a + b = offM p + (a + b) by omega]
  have : (b % 8 = 0) ↔ ((a + b) % 8 = 0) := by omega
  simp only [this]
set_option maxRecDepth 100000 in
set_option maxHeartbeats 4000000 in
theorem c6 (off gen kind : Int) (h0 : 0 ≤ off ∧ off ≤ M64) (h1 : 0 ≤ gen ∧ gen ≤ 65535) (h2 : 0 ≤ kind ∧ kind ≤ 255) : PCalls Tryd.prog 6 [.v (.int .u64 off), .v (.int .u16 gen), .v (.int .u8 kind)] (.v (.bool true)) := by
  refine pcalls_of (E := E) (fn := Tryd.f6) 82 [.tmp 6] rfl rfl rfl rfl (by decide) rfl ?_
  by_cases hm : (makeM off gen kind).2 = 0
  · obtain ⟨q, e, hq, r1, r2, r3⟩ := make_ok h0.1 h1 h2 hm
    have w1 : IntKind.u64.wrap (off + 8) = off + 8 := by rw [wr64]; omega
    have f1 := hq.off; have f2 := hq.gen; have f3 := hq.kind; have f4 := hq.formed; have f5 := hq.ne
    repeat' (first
      | (with_reducible first | refine r_seq ?_ | refine r_block ?_ | refine fork_not ?_ | refine fork_and ?_ | refine fork_or ?_ | refine chk_ok (by kernel_rfl) ?_)
      | ((with_reducible first | refine fork_dec ?_ ?_ | refine fork_eq ?_ ?_ | refine fork_ne ?_ ?_ | refine fork_intro ?_ ?_) <;> intro h <;> try (exfalso; first | omega | exact h rfl | (revert h; decide) | (cases h; done)))
      | ((with_reducible show False); omega)
      | ((first | (with_reducible first | refine r_exit ?_ | refine r_skip ?_ | refine r_cond ?_ | refine r_region ?_ | show VX _ _ _ _ _ _ _ | show vstep _ _ _ _ _ | show vskip _ _ _ | show withV _ _) | ((with_reducible show endA _ _ _ _ _ _ _); simp -implicitDefEqProofs only [endA])); simp -dsimp -implicitDefEqProofs (maxSteps := 1000000) (disch := first | omega | (simp only [LN, e, w1, f1, f2, f3, f4]; omega)) only [go_sem, Int.reduceToNat, Int.reducePow, Nat.reducePow, Int.reduceAdd, Int.reduceMul, Int.reduceSub, Int.reduceNeg, Nat.reduceAdd, Nat.reduceMul, Nat.reduceSub, Nat.reduceEqDiff, Nat.reduceLT, Nat.reduceLeDiff, e, w1, f1, f2, f3, f4])
      | ((first | (with_reducible refine r_ret ?_) | (with_reducible refine pick_viewG default (by first | omega | (simp only [LN, e, w1, f1, f2, f3, f4]; omega)) (by first | omega | (simp only [LN, e, w1, f1, f2, f3, f4]; omega)) ?_) | (with_reducible refine pick_own default (by first | omega | (simp only [LN, e, w1, f1, f2, f3, f4]; omega)) ?_) | (with_reducible refine And.intro (by first | decide | omega | assumption | (simp only [LN, e, w1, f1, f2, f3, f4]; omega)) ?_) | ((with_reducible apply callK_pure); (first | exact c12 | exact c19 off gen kind h0.1 h1 h2 | exact c20 off gen kind h0.1 h0.2 h1 h2 | exact c21 q | exact c18 q hq.r.1 | exact c16 q hq.r.1 | exact c17 q hq.r.1 | exact c22 q (off + 8) hq.r.1 | exact c22 q off hq.r.1 | fail)) | ((with_reducible apply callF_lend); (first | exact c12 | exact c19 off gen kind h0.1 h1 h2 | exact c20 off gen kind h0.1 h0.2 h1 h2 | exact c21 q | exact c18 q hq.r.1 | exact c16 q hq.r.1 | exact c17 q hq.r.1 | exact c22 q (off + 8) hq.r.1 | exact c22 q off hq.r.1 | fail); rfl) | ((with_reducible apply callF_go); (first | exact c12 | exact c19 off gen kind h0.1 h1 h2 | exact c20 off gen kind h0.1 h0.2 h1 h2 | exact c21 q | exact c18 q hq.r.1 | exact c16 q hq.r.1 | exact c17 q hq.r.1 | exact c22 q (off + 8) hq.r.1 | exact c22 q off hq.r.1 | fail)) | ((with_reducible show pickE _ _ _); first | refine pickE_intro _ ⟨by omega, by rfl⟩ ?_ | refine pickE_intro _ (by rfl) ?_) | fail); try simp -dsimp -implicitDefEqProofs (maxSteps := 1000000) (disch := first | omega | (simp only [LN, e, w1, f1, f2, f3, f4]; omega)) only [go_sem, Int.reduceToNat, Int.reducePow, Nat.reducePow, Int.reduceAdd, Int.reduceMul, Int.reduceSub, Int.reduceNeg, Nat.reduceAdd, Nat.reduceMul, Nat.reduceSub, Nat.reduceEqDiff, Nat.reduceLT, Nat.reduceLeDiff, e, w1, f1, f2, f3, f4])
      | fail)
    all_goals first | rfl | (simp_all; done) | trace_state
  · have e := make_bad hm
    repeat' (first
      | (with_reducible first | refine r_seq ?_ | refine r_block ?_ | refine fork_not ?_ | refine fork_and ?_ | refine fork_or ?_ | refine chk_ok (by kernel_rfl) ?_)
      | ((with_reducible first | refine fork_dec ?_ ?_ | refine fork_eq ?_ ?_ | refine fork_ne ?_ ?_ | refine fork_intro ?_ ?_) <;> intro h <;> try (exfalso; first | omega | exact h rfl | (revert h; decide) | (cases h; done)))
      | ((with_reducible show False); omega)
      | ((first | (with_reducible first | refine r_exit ?_ | refine r_skip ?_ | refine r_cond ?_ | refine r_region ?_ | show VX _ _ _ _ _ _ _ | show vstep _ _ _ _ _ | show vskip _ _ _ | show withV _ _) | ((with_reducible show endA _ _ _ _ _ _ _); simp -implicitDefEqProofs only [endA])); simp -dsimp -implicitDefEqProofs (maxSteps := 1000000) (disch := first | omega | (simp only [LN, e]; omega)) only [go_sem, Int.reduceToNat, Int.reducePow, Nat.reducePow, Int.reduceAdd, Int.reduceMul, Int.reduceSub, Int.reduceNeg, Nat.reduceAdd, Nat.reduceMul, Nat.reduceSub, Nat.reduceEqDiff, Nat.reduceLT, Nat.reduceLeDiff, e])
      | ((first | (with_reducible refine r_ret ?_) | (with_reducible refine pick_viewG default (by first | omega | (simp only [LN, e]; omega)) (by first | omega | (simp only [LN, e]; omega)) ?_) | (with_reducible refine pick_own default (by first | omega | (simp only [LN, e]; omega)) ?_) | (with_reducible refine And.intro (by first | decide | omega | assumption | (simp only [LN, e]; omega)) ?_) | ((with_reducible apply callK_pure); (first | exact c12 | exact c19 off gen kind h0.1 h1 h2 | exact c20 off gen kind h0.1 h0.2 h1 h2 | exact c21 0 | fail)) | ((with_reducible apply callF_lend); (first | exact c12 | exact c19 off gen kind h0.1 h1 h2 | exact c20 off gen kind h0.1 h0.2 h1 h2 | exact c21 0 | fail); rfl) | ((with_reducible apply callF_go); (first | exact c12 | exact c19 off gen kind h0.1 h1 h2 | exact c20 off gen kind h0.1 h0.2 h1 h2 | exact c21 0 | fail)) | ((with_reducible show pickE _ _ _); first | refine pickE_intro _ ⟨by omega, by rfl⟩ ?_ | refine pickE_intro _ (by rfl) ?_) | fail); try simp -dsimp -implicitDefEqProofs (maxSteps := 1000000) (disch := first | omega | (simp only [LN, e]; omega)) only [go_sem, Int.reduceToNat, Int.reducePow, Nat.reducePow, Int.reduceAdd, Int.reduceMul, Int.reduceSub, Int.reduceNeg, Nat.reduceAdd, Nat.reduceMul, Nat.reduceSub, Nat.reduceEqDiff, Nat.reduceLT, Nat.reduceLeDiff, e])
      | fail)
    all_goals first | rfl | (simp_all; done) | trace_state
set_option maxRecDepth 100000 in
set_option maxHeartbeats 4000000 in
theorem c4 (p d : Int) (h0 : 0 ≤ p ∧ p ≤ M64) (hd : -9223372036854775808 ≤ d ∧ d ≤ 9223372036854775807) : PCalls Tryd.prog 4 [.v (.int .u64 p), .v (.int .i64 d)] (.v (.bool true)) := by
  refine pcalls_of (E := E) (fn := Tryd.f4) 77 [.tmp 4] rfl rfl rfl rfl (by decide) rfl ?_
  have o1 := off_r p
  by_cases hm : (relocM p d).2 = 0
  · obtain ⟨q, e, hq, r1, r2, r3, hf, r4⟩ := reloc_ok h0.1 hm
    have eb := reloc_back h0.1 hq r3 hf
    have w1 : IntKind.i64.wrap (-d) = -d := wrap_i64 (by omega) (by omega)
    have w2 : IntKind.i64.wrap (0 - d) = -d := by rw [Int.zero_sub]; exact w1
    have w3 : offM p + d - offM p = d := by omega
    have f1 := hq.off; have f2 := hq.gen; have f3 := hq.kind
    repeat' (first
      | (with_reducible first | refine r_seq ?_ | refine r_block ?_ | refine fork_not ?_ | refine fork_and ?_ | refine fork_or ?_ | refine chk_ok (by kernel_rfl) ?_)
      | ((with_reducible first | refine fork_dec ?_ ?_ | refine fork_eq ?_ ?_ | refine fork_ne ?_ ?_ | refine fork_intro ?_ ?_) <;> intro h <;> try (exfalso; first | omega | exact h rfl | (revert h; decide) | (cases h; done)))
      | ((with_reducible show False); omega)
      | ((first | (with_reducible first | refine r_exit ?_ | refine r_skip ?_ | refine r_cond ?_ | refine r_region ?_ | show VX _ _ _ _ _ _ _ | show vstep _ _ _ _ _ | show vskip _ _ _ | show withV _ _) | ((with_reducible show endA _ _ _ _ _ _ _); simp -implicitDefEqProofs only [endA])); simp -dsimp -implicitDefEqProofs (maxSteps := 1000000) (disch := first | omega | (simp only [LN, e, eb, w1, w2, w3, f1, f2, f3]; omega)) only [go_sem, Int.reduceToNat, Int.reducePow, Nat.reducePow, Int.reduceAdd, Int.reduceMul, Int.reduceSub, Int.reduceNeg, Nat.reduceAdd, Nat.reduceMul, Nat.reduceSub, Nat.reduceEqDiff, Nat.reduceLT, Nat.reduceLeDiff, e, eb, w1, w2, w3, f1, f2, f3])
      | ((first | (with_reducible refine r_ret ?_) | (with_reducible refine pick_viewG default (by first | omega | (simp only [LN, e, eb, w1, w2, w3, f1, f2, f3]; omega)) (by first | omega | (simp only [LN, e, eb, w1, w2, w3, f1, f2, f3]; omega)) ?_) | (with_reducible refine pick_own default (by first | omega | (simp only [LN, e, eb, w1, w2, w3, f1, f2, f3]; omega)) ?_) | (with_reducible refine And.intro (by first | decide | omega | assumption | (simp only [LN, e, eb, w1, w2, w3, f1, f2, f3]; omega)) ?_) | ((with_reducible apply callK_pure); (first | exact c12 | exact c14 p d h0.1 hd | exact c15 p d h0.1 hd | exact c14 q (-d) hq.r.1 (by omega) | exact c18 q hq.r.1 | exact c18 p h0.1 | exact c16 q hq.r.1 | exact c16 p h0.1 | exact c17 q hq.r.1 | exact c17 p h0.1 | fail)) | ((with_reducible apply callF_lend); (first | exact c12 | exact c14 p d h0.1 hd | exact c15 p d h0.1 hd | exact c14 q (-d) hq.r.1 (by omega) | exact c18 q hq.r.1 | exact c18 p h0.1 | exact c16 q hq.r.1 | exact c16 p h0.1 | exact c17 q hq.r.1 | exact c17 p h0.1 | fail); rfl) | ((with_reducible apply callF_go); (first | exact c12 | exact c14 p d h0.1 hd | exact c15 p d h0.1 hd | exact c14 q (-d) hq.r.1 (by omega) | exact c18 q hq.r.1 | exact c18 p h0.1 | exact c16 q hq.r.1 | exact c16 p h0.1 | exact c17 q hq.r.1 | exact c17 p h0.1 | fail)) | ((with_reducible show pickE _ _ _); first | refine pickE_intro _ ⟨by omega, by rfl⟩ ?_ | refine pickE_intro _ (by rfl) ?_) | fail); try simp -dsimp -implicitDefEqProofs (maxSteps := 1000000) (disch := first | omega | (simp only [LN, e, eb, w1, w2, w3, f1, f2, f3]; omega)) only [go_sem, Int.reduceToNat, Int.reducePow, Nat.reducePow, Int.reduceAdd, Int.reduceMul, Int.reduceSub, Int.reduceNeg, Nat.reduceAdd, Nat.reduceMul, Nat.reduceSub, Nat.reduceEqDiff, Nat.reduceLT, Nat.reduceLeDiff, e, eb, w1, w2, w3, f1, f2, f3])
      | fail)
    all_goals first | rfl | (simp_all; done) | trace_state
  · repeat' (first
      | (with_reducible first | refine r_seq ?_ | refine r_block ?_ | refine fork_not ?_ | refine fork_and ?_ | refine fork_or ?_ | refine chk_ok (by kernel_rfl) ?_)
      | ((with_reducible first | refine fork_dec ?_ ?_ | refine fork_eq ?_ ?_ | refine fork_ne ?_ ?_ | refine fork_intro ?_ ?_) <;> intro h <;> try (exfalso; first | omega | exact h rfl | (revert h; decide) | (cases h; done)))
      | ((with_reducible show False); omega)
      | ((first | (with_reducible first | refine r_exit ?_ | refine r_skip ?_ | refine r_cond ?_ | refine r_region ?_ | show VX _ _ _ _ _ _ _ | show vstep _ _ _ _ _ | show vskip _ _ _ | show withV _ _) | ((with_reducible show endA _ _ _ _ _ _ _); simp -implicitDefEqProofs only [endA])); simp -dsimp -implicitDefEqProofs (maxSteps := 1000000) (disch := first | omega | (simp only [LN]; omega)) only [go_sem, Int.reduceToNat, Int.reducePow, Nat.reducePow, Int.reduceAdd, Int.reduceMul, Int.reduceSub, Int.reduceNeg, Nat.reduceAdd, Nat.reduceMul, Nat.reduceSub, Nat.reduceEqDiff, Nat.reduceLT, Nat.reduceLeDiff])
      | ((first | (with_reducible refine r_ret ?_) | (with_reducible refine pick_viewG default (by first | omega | (simp only [LN]; omega)) (by first | omega | (simp only [LN]; omega)) ?_) | (with_reducible refine pick_own default (by first | omega | (simp only [LN]; omega)) ?_) | (with_reducible refine And.intro (by first | decide | omega | assumption | (simp only [LN]; omega)) ?_) | ((with_reducible apply callK_pure); (first | exact c12 | exact c14 p d h0.1 hd | exact c15 p d h0.1 hd | fail)) | ((with_reducible apply callF_lend); (first | exact c12 | exact c14 p d h0.1 hd | exact c15 p d h0.1 hd | fail); rfl) | ((with_reducible apply callF_go); (first | exact c12 | exact c14 p d h0.1 hd | exact c15 p d h0.1 hd | fail)) | ((with_reducible show pickE _ _ _); first | refine pickE_intro _ ⟨by omega, by rfl⟩ ?_ | refine pickE_intro _ (by rfl) ?_) | fail); try simp -dsimp -implicitDefEqProofs (maxSteps := 1000000) (disch := first | omega | (simp only [LN]; omega)) only [go_sem, Int.reduceToNat, Int.reducePow, Nat.reducePow, Int.reduceAdd, Int.reduceMul, Int.reduceSub, Int.reduceNeg, Nat.reduceAdd, Nat.reduceMul, Nat.reduceSub, Nat.reduceEqDiff, Nat.reduceLT, Nat.reduceLeDiff])
      | fail)
    all_goals first | rfl | (simp_all; done) | trace_state
set_option maxRecDepth 100000 in
set_option maxHeartbeats 4000000 in
theorem c5 (p a b : Int) (h0 : 0 ≤ p ∧ p ≤ M64) (ha : -2147483648 ≤ a ∧ a ≤ 2147483647) (hb : -2147483648 ≤ b ∧ b ≤ 2147483647) : PCalls Tryd.prog 5 [.v (.int .u64 p), .v (.int .i32 a), .v (.int .i32 b)] (.v (.bool true)) := by
  refine pcalls_of (E := E) (fn := Tryd.f5) 56 [.tmp 6] rfl rfl rfl rfl (by decide) rfl ?_
  have w1 : IntKind.i64.wrap a = a := wrap_i64 (by omega) (by omega)
  have w2 : IntKind.i64.wrap b = b := wrap_i64 (by omega) (by omega)
  have w3 : IntKind.i64.wrap (8 * a) = 8 * a := wrap_i64 (by omega) (by omega)
  have w4 : IntKind.i64.wrap (8 * b) = 8 * b := wrap_i64 (by omega) (by omega)
  have w5 : IntKind.i64.wrap (a + b) = a + b := wrap_i64 (by omega) (by omega)
  have w6 : IntKind.i64.wrap (8 * (a + b)) = 8 * (a + b) := wrap_i64 (by omega) (by omega)
  by_cases hm : (relocM p (8 * a)).2 = 0
  · obtain ⟨q, e, hq, r1, r2, r3, hf, r4⟩ := reloc_ok h0.1 hm
    have et := reloc_two (b := 8 * b) hq r3 hf
    rw [show 8 * a + 8 * b = 8 * (a + b) by omega] at et
    repeat' (first
      | (with_reducible first | refine r_seq ?_ | refine r_block ?_ | refine fork_not ?_ | refine fork_and ?_ | refine fork_or ?_ | refine chk_ok (by kernel_rfl) ?_)
      | ((with_reducible first | refine fork_dec ?_ ?_ | refine fork_eq ?_ ?_ | refine fork_ne ?_ ?_ | refine fork_intro ?_ ?_) <;> intro h <;> try (exfalso; first | omega | exact h rfl | (revert h; decide) | (cases h; done)))
      | ((with_reducible show False); omega)
      | ((first | (with_reducible first | refine r_exit ?_ | refine r_skip ?_ | refine r_cond ?_ | refine r_region ?_ | show VX _ _ _ _ _ _ _ | show vstep _ _ _ _ _ | show vskip _ _ _ | show withV _ _) | ((with_reducible show endA _ _ _ _ _ _ _); simp -implicitDefEqProofs only [endA])); simp -dsimp -implicitDefEqProofs (maxSteps := 1000000) (disch := first | omega | (simp only [LN, e, et, w1, w2, w3, w4, w5, w6]; omega)) only [go_sem, Int.reduceToNat, Int.reducePow, Nat.reducePow, Int.reduceAdd, Int.reduceMul, Int.reduceSub, Int.reduceNeg, Nat.reduceAdd, Nat.reduceMul, Nat.reduceSub, Nat.reduceEqDiff, Nat.reduceLT, Nat.reduceLeDiff, e, et, w1, w2, w3, w4, w5, w6])
      | ((first | (with_reducible refine r_ret ?_) | (with_reducible refine pick_viewG default (by first | omega | (simp only [LN, e, et, w1, w2, w3, w4, w5, w6]; omega)) (by first | omega | (simp only [LN, e, et, w1, w2, w3, w4, w5, w6]; omega)) ?_) | (with_reducible refine pick_own default (by first | omega | (simp only [LN, e, et, w1, w2, w3, w4, w5, w6]; omega)) ?_) | (with_reducible refine And.intro (by first | decide | omega | assumption | (simp only [LN, e, et, w1, w2, w3, w4, w5, w6]; omega)) ?_) | ((with_reducible apply callK_pure); (first | exact c12 | exact c14 p (8 * a) h0.1 (by omega) | exact c14 q (8 * b) hq.r.1 (by omega) | exact c14 p (8 * (a + b)) h0.1 (by omega) | fail)) | ((with_reducible apply callF_lend); (first | exact c12 | exact c14 p (8 * a) h0.1 (by omega) | exact c14 q (8 * b) hq.r.1 (by omega) | exact c14 p (8 * (a + b)) h0.1 (by omega) | fail); rfl) | ((with_reducible apply callF_go); (first | exact c12 | exact c14 p (8 * a) h0.1 (by omega) | exact c14 q (8 * b) hq.r.1 (by omega) | exact c14 p (8 * (a + b)) h0.1 (by omega) | fail)) | ((with_reducible show pickE _ _ _); first | refine pickE_intro _ ⟨by omega, by rfl⟩ ?_ | refine pickE_intro _ (by rfl) ?_) | fail); try simp -dsimp -implicitDefEqProofs (maxSteps := 1000000) (disch := first | omega | (simp only [LN, e, et, w1, w2, w3, w4, w5, w6]; omega)) only [go_sem, Int.reduceToNat, Int.reducePow, Nat.reducePow, Int.reduceAdd, Int.reduceMul, Int.reduceSub, Int.reduceNeg, Nat.reduceAdd, Nat.reduceMul, Nat.reduceSub, Nat.reduceEqDiff, Nat.reduceLT, Nat.reduceLeDiff, e, et, w1, w2, w3, w4, w5, w6])
      | fail)
    all_goals first | rfl | (simp_all; done) | trace_state
  · repeat' (first
      | (with_reducible first | refine r_seq ?_ | refine r_block ?_ | refine fork_not ?_ | refine fork_and ?_ | refine fork_or ?_ | refine chk_ok (by kernel_rfl) ?_)
      | ((with_reducible first | refine fork_dec ?_ ?_ | refine fork_eq ?_ ?_ | refine fork_ne ?_ ?_ | refine fork_intro ?_ ?_) <;> intro h <;> try (exfalso; first | omega | exact h rfl | (revert h; decide) | (cases h; done)))
      | ((with_reducible show False); omega)
      | ((first | (with_reducible first | refine r_exit ?_ | refine r_skip ?_ | refine r_cond ?_ | refine r_region ?_ | show VX _ _ _ _ _ _ _ | show vstep _ _ _ _ _ | show vskip _ _ _ | show withV _ _) | ((with_reducible show endA _ _ _ _ _ _ _); simp -implicitDefEqProofs only [endA])); simp -dsimp -implicitDefEqProofs (maxSteps := 1000000) (disch := first | omega | (simp only [LN, w1, w3]; omega)) only [go_sem, Int.reduceToNat, Int.reducePow, Nat.reducePow, Int.reduceAdd, Int.reduceMul, Int.reduceSub, Int.reduceNeg, Nat.reduceAdd, Nat.reduceMul, Nat.reduceSub, Nat.reduceEqDiff, Nat.reduceLT, Nat.reduceLeDiff, w1, w3])
      | ((first | (with_reducible refine r_ret ?_) | (with_reducible refine pick_viewG default (by first | omega | (simp only [LN, w1, w3]; omega)) (by first | omega | (simp only [LN, w1, w3]; omega)) ?_) | (with_reducible refine pick_own default (by first | omega | (simp only [LN, w1, w3]; omega)) ?_) | (with_reducible refine And.intro (by first | decide | omega | assumption | (simp only [LN, w1, w3]; omega)) ?_) | ((with_reducible apply callK_pure); (first | exact c12 | exact c14 p (8 * a) h0.1 (by omega) | fail)) | ((with_reducible apply callF_lend); (first | exact c12 | exact c14 p (8 * a) h0.1 (by omega) | fail); rfl) | ((with_reducible apply callF_go); (first | exact c12 | exact c14 p (8 * a) h0.1 (by omega) | fail)) | ((with_reducible show pickE _ _ _); first | refine pickE_intro _ ⟨by omega, by rfl⟩ ?_ | refine pickE_intro _ (by rfl) ?_) | fail); try simp -dsimp -implicitDefEqProofs (maxSteps := 1000000) (disch := first | omega | (simp only [LN, w1, w3]; omega)) only [go_sem, Int.reduceToNat, Int.reducePow, Nat.reducePow, Int.reduceAdd, Int.reduceMul, Int.reduceSub, Int.reduceNeg, Nat.reduceAdd, Nat.reduceMul, Nat.reduceSub, Nat.reduceEqDiff, Nat.reduceLT, Nat.reduceLeDiff, w1, w3])
      | fail)
    all_goals first | rfl | (simp_all; done) | trace_state
end Go.Proofs.YtkmobahedfdikaaDoor
