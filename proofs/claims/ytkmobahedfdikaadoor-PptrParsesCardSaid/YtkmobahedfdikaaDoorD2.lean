/- Contracts of functions of this program, and the plain facts that they rest on. No conditions. -/
import Derived.Test.YtkmobahedfdikaaDoorD1
set_option linter.unusedSimpArgs false
set_option linter.unusedVariables false
namespace Go.Proofs.YtkmobahedfdikaaDoor
open Go Go.Ab
attribute [local irreducible] callK callF loopQ vstep vskip pickE hideP
theorem bor_add (a b : Int) (i : Nat) (ha0 : 0 ≤ a) (ha : a < 2 ^ i) (hb : 0 ≤ b) (hab : a + b * 2 ^ i < 18446744073709551616) :
    ((BitVec.ofInt 64 a ||| BitVec.ofInt 64 (b * 2 ^ i)).toNat : Int) = a + b * 2 ^ i := by
  obtain ⟨m, rfl⟩ := Int.eq_ofNat_of_zero_le ha0
  obtain ⟨n, rfl⟩ := Int.eq_ofNat_of_zero_le hb
  have e : ((n : Int) * 2 ^ i) = ((n * 2 ^ i : Nat) : Int) := by simp
  rw [e] at hab ⊢
  have hm : m < 2 ^ i := by exact_mod_cast ha
  have hs : m + n * 2 ^ i < 2 ^ 64 := by omega
  rw [BitVec.toNat_or, BitVec.ofInt_natCast, BitVec.ofInt_natCast, BitVec.toNat_ofNat, BitVec.toNat_ofNat, Nat.mod_eq_of_lt (by omega), Nat.mod_eq_of_lt (by omega)]
  have := Nat.shiftLeft_add_eq_or_of_lt hm n
  rw [Nat.shiftLeft_eq] at this
  rw [Nat.or_comm, ← this]
  push_cast; omega
def makeM (off gen kind : Int) : Int × Int :=
  if off = 0 ∨ ¬ off % 8 = 0 ∨ gen = 0 ∨ kind = 0 ∨ 127 < kind then (0, 1) else if 34359738360 < off then (0, 2) else (off / 8 + gen * 4294967296 + kind * 281474976710656, 0)
theorem make1 {off gen kind : Int} (h : off = 0 ∨ ¬ off % 8 = 0 ∨ gen = 0 ∨ kind = 0 ∨ 127 < kind) : makeM off gen kind = (0, 1) := by unfold makeM; rw [if_pos h]
theorem make2 {off gen kind : Int} (h : ¬ (off = 0 ∨ ¬ off % 8 = 0 ∨ gen = 0 ∨ kind = 0 ∨ 127 < kind)) (h2 : 34359738360 < off) : makeM off gen kind = (0, 2) := by unfold makeM; rw [if_neg h, if_pos h2]
theorem make3 {off gen kind : Int} (h : ¬ (off = 0 ∨ ¬ off % 8 = 0 ∨ gen = 0 ∨ kind = 0 ∨ 127 < kind)) (h2 : ¬ 34359738360 < off) : makeM off gen kind = (off / 8 + gen * 4294967296 + kind * 281474976710656, 0) := by unfold makeM; rw [if_neg h, if_neg h2]
theorem pack_bits {off gen kind : Int} (h0 : 0 ≤ off) (h1 : off ≤ 34359738360) (h2 : 0 ≤ gen ∧ gen ≤ 65535) (h3 : 0 ≤ kind ∧ kind ≤ 127) :
    IntKind.u64.wrap ((BitVec.ofInt 64 (IntKind.u64.wrap ((BitVec.ofInt 64 (IntKind.u64.wrap (off.tdiv 8)) ||| BitVec.ofInt 64 (IntKind.u64.wrap (IntKind.u64.wrap gen * 4294967296))).toNat : Int)) ||| BitVec.ofInt 64 (IntKind.u64.wrap (IntKind.u64.wrap kind * 281474976710656))).toNat : Int) = off / 8 + gen * 4294967296 + kind * 281474976710656 := by
  have e1 : IntKind.u64.wrap (off.tdiv 8) = off / 8 := by rw [Int.tdiv_eq_ediv_of_nonneg h0, wr64]; omega
  have e2 : IntKind.u64.wrap (IntKind.u64.wrap gen * 4294967296) = gen * 2 ^ 32 := by rw [wr64, wr64]; omega
  have e3 : IntKind.u64.wrap (IntKind.u64.wrap kind * 281474976710656) = kind * 2 ^ 48 := by rw [wr64, wr64]; omega
  rw [e1, e2, e3, bor_add _ _ 32 (by omega) (by omega) h2.1 (by omega)]
  have e4 : IntKind.u64.wrap (off / 8 + gen * 2 ^ 32) = off / 8 + gen * 2 ^ 32 := by rw [wr64]; omega
  rw [e4, bor_add _ _ 48 (by omega) (by omega) h3.1 (by omega), wr64]
  omega
set_option maxRecDepth 100000 in
set_option maxHeartbeats 4000000 in
theorem c19 (off gen kind : Int) (h0 : 0 ≤ off) (h2 : 0 ≤ gen ∧ gen ≤ 65535) (h3 : 0 ≤ kind ∧ kind ≤ 255) : PCalls Tryd.prog 19 [.v (.int .u64 off), .v (.int .u16 gen), .v (.int .u8 kind)] (.tup [.v (.int .u64 (makeM off gen kind).1), .v (.int .i64 (makeM off gen kind).2)]) := by
  refine pcalls_of (E := E) (fn := Tryd.f19) 39 [.tmp 6, .tmp 7] rfl rfl rfl rfl (by decide) rfl ?_
  repeat' (first
    | (with_reducible first | refine r_seq ?_ | refine r_block ?_ | refine fork_not ?_ | refine fork_and ?_ | refine fork_or ?_ | refine chk_ok (by kernel_rfl) ?_)
    | ((with_reducible first | refine fork_dec ?_ ?_ | refine fork_eq ?_ ?_ | refine fork_ne ?_ ?_ | refine fork_intro ?_ ?_) <;> intro h)
    | ((with_reducible show False); omega)
    | ((first | (with_reducible first | refine r_exit ?_ | refine r_skip ?_ | refine r_cond ?_ | refine r_region ?_ | show VX _ _ _ _ _ _ _ | show vstep _ _ _ _ _ | show vskip _ _ _ | show withV _ _) | ((with_reducible show endA _ _ _ _ _ _ _); simp -implicitDefEqProofs only [endA])); simp -dsimp -implicitDefEqProofs (maxSteps := 1000000) (disch := first | omega | (simp only [LN]; omega)) only [go_sem, Int.reduceToNat, Int.reducePow, Nat.reducePow, Int.reduceAdd, Int.reduceMul, Int.reduceSub, Int.reduceNeg, Nat.reduceAdd, Nat.reduceMul, Nat.reduceSub, Nat.reduceEqDiff, Nat.reduceLT, Nat.reduceLeDiff])
    | ((first | (with_reducible refine r_ret ?_) | (with_reducible refine pick_viewG default (by first | omega | (simp only [LN]; omega)) (by first | omega | (simp only [LN]; omega)) ?_) | (with_reducible refine pick_own default (by first | omega | (simp only [LN]; omega)) ?_) | (with_reducible refine And.intro (by first | decide | omega | assumption | (simp only [LN]; omega)) ?_) | ((with_reducible show pickE _ _ _); first | refine pickE_intro _ ⟨by omega, by rfl⟩ ?_ | refine pickE_intro _ (by rfl) ?_) | fail); try simp -dsimp -implicitDefEqProofs (maxSteps := 1000000) (disch := first | omega | (simp only [LN]; omega)) only [go_sem, Int.reduceToNat, Int.reducePow, Nat.reducePow, Int.reduceAdd, Int.reduceMul, Int.reduceSub, Int.reduceNeg, Nat.reduceAdd, Nat.reduceMul, Nat.reduceSub, Nat.reduceEqDiff, Nat.reduceLT, Nat.reduceLeDiff])
    | fail)
  all_goals (try simp only [Int.tmod_eq_emod_of_nonneg h0] at *)
  all_goals first
    | (rw [make1 (by omega)]; simp; done)
    | (rw [make2 (by omega) (by omega)]; simp; done)
    | (rw [make3 (by omega) (by omega)]; exact ⟨congrArg _ (pack_bits h0 (by omega) h2 (by omega)), rfl⟩)
    | skip
set_option maxRecDepth 100000 in
set_option maxHeartbeats 4000000 in
theorem c20 (off gen kind : Int) (h0 : 0 ≤ off) (h1 : off ≤ 18446744073709551615) (h2 : 0 ≤ gen ∧ gen ≤ 65535) (h3 : 0 ≤ kind ∧ kind ≤ 255) : PCalls Tryd.prog 20 [.v (.int .u64 off), .v (.int .u16 gen), .v (.int .u8 kind)] (.tup [.v (.int .u64 (makeM off gen kind).1), .v (.int .i64 (makeM off gen kind).2)]) := by
  refine pcalls_of (E := E) (fn := Tryd.f20) 40 [.tmp 6, .tmp 7] rfl rfl rfl rfl (by decide) rfl ?_
  repeat' (first
    | (with_reducible first | refine r_seq ?_ | refine r_block ?_ | refine fork_not ?_ | refine fork_and ?_ | refine fork_or ?_ | refine chk_ok (by kernel_rfl) ?_)
    | ((with_reducible first | refine fork_dec ?_ ?_ | refine fork_eq ?_ ?_ | refine fork_ne ?_ ?_ | refine fork_intro ?_ ?_) <;> intro h)
    | ((with_reducible show False); omega)
    | ((first | (with_reducible first | refine r_exit ?_ | refine r_skip ?_ | refine r_cond ?_ | refine r_region ?_ | show VX _ _ _ _ _ _ _ | show vstep _ _ _ _ _ | show vskip _ _ _ | show withV _ _) | ((with_reducible show endA _ _ _ _ _ _ _); simp -implicitDefEqProofs only [endA])); simp -dsimp -implicitDefEqProofs (maxSteps := 1000000) (disch := first | omega | (simp only [LN]; omega)) only [go_sem, Int.reduceToNat, Int.reducePow, Nat.reducePow, Int.reduceAdd, Int.reduceMul, Int.reduceSub, Int.reduceNeg, Nat.reduceAdd, Nat.reduceMul, Nat.reduceSub, Nat.reduceEqDiff, Nat.reduceLT, Nat.reduceLeDiff])
    | ((first | (with_reducible refine r_ret ?_) | (with_reducible refine pick_viewG default (by first | omega | (simp only [LN]; omega)) (by first | omega | (simp only [LN]; omega)) ?_) | (with_reducible refine pick_own default (by first | omega | (simp only [LN]; omega)) ?_) | (with_reducible refine And.intro (by first | decide | omega | assumption | (simp only [LN]; omega)) ?_) | ((with_reducible show pickE _ _ _); first | refine pickE_intro _ ⟨by omega, by rfl⟩ ?_ | refine pickE_intro _ (by rfl) ?_) | fail); try simp -dsimp -implicitDefEqProofs (maxSteps := 1000000) (disch := first | omega | (simp only [LN]; omega)) only [go_sem, Int.reduceToNat, Int.reducePow, Nat.reducePow, Int.reduceAdd, Int.reduceMul, Int.reduceSub, Int.reduceNeg, Nat.reduceAdd, Nat.reduceMul, Nat.reduceSub, Nat.reduceEqDiff, Nat.reduceLT, Nat.reduceLeDiff])
    | fail)
  all_goals (try simp only [Int.tmod_eq_emod_of_nonneg h0, Int.tdiv_eq_ediv_of_nonneg h0, wr64] at *)
  all_goals first
    | (rw [make1 (by omega)]; simp; done)
    | (rw [make2 (by omega) (by omega)]; simp; done)
    | (rw [make3 (by omega) (by omega)]; refine ⟨congrArg _ ?_, rfl⟩; dsimp only; omega)
    | skip
def formedM (p : Int) : Bool := decide (p / 72057594037927936 = 0 ∧ ¬ offM p = 0 ∧ ¬ genM p = 0 ∧ ¬ kindM p = 0 ∧ kindM p ≤ 127)
theorem off_r (p : Int) : 0 ≤ offM p ∧ offM p ≤ 34359738360 ∧ offM p % 8 = 0 ∧ offM p / 8 = p % 4294967296 := by unfold offM; omega
theorem gen_r (p : Int) : 0 ≤ genM p ∧ genM p ≤ 65535 := by unfold genM; omega
theorem kind_r (p : Int) : 0 ≤ kindM p ∧ kindM p ≤ 255 := by unfold kindM; omega
theorem parts {p : Int} (h0 : 0 ≤ p) (h : p / 72057594037927936 = 0) : p = offM p / 8 + genM p * 4294967296 + kindM p * 281474976710656 := by
  rw [(off_r p).2.2.2]; unfold genM kindM; omega
theorem parts_ne {p : Int} (h0 : 0 ≤ p) (h : ¬ p / 72057594037927936 = 0) : ¬ p = offM p / 8 + genM p * 4294967296 + kindM p * 281474976710656 := by
  rw [(off_r p).2.2.2]; unfold genM kindM; omega
theorem made {p : Int} (h0 : 0 ≤ p) : formedM p = true ↔ (makeM (offM p) (genM p) (kindM p)).2 = 0 ∧ p = (makeM (offM p) (genM p) (kindM p)).1 := by
  have h1 := off_r p; have h2 := gen_r p; have h3 := kind_r p
  simp only [formedM, decide_eq_true_eq]
  by_cases hb : offM p = 0 ∨ ¬ offM p % 8 = 0 ∨ genM p = 0 ∨ kindM p = 0 ∨ 127 < kindM p
  · rw [make1 hb]; constructor
    · rintro ⟨a, b, c, d, e⟩; omega
    · rintro ⟨a, _⟩; simp at a
  · rw [make3 hb (by omega)]
    by_cases ht : p / 72057594037927936 = 0
    · exact ⟨fun _ => ⟨rfl, parts h0 ht⟩, fun _ => ⟨ht, by omega, by omega, by omega, by omega⟩⟩
    · exact ⟨fun h => absurd h.1 ht, fun h => absurd h.2 (parts_ne h0 ht)⟩
set_option maxRecDepth 100000 in
set_option maxHeartbeats 4000000 in
theorem c31 (p : Int) (h0 : 0 ≤ p) : PCalls Tryd.prog 31 [.v (.int .u64 p)] (.v (.bool (formedM p))) := by
  refine pcalls_of (E := E) (fn := Tryd.f31) 26 [.tmp 2] rfl rfl rfl rfl (by decide) rfl ?_
  repeat' (first
    | (with_reducible first | refine r_seq ?_ | refine r_block ?_ | refine fork_not ?_ | refine fork_and ?_ | refine fork_or ?_ | refine chk_ok (by kernel_rfl) ?_)
    | ((with_reducible first | refine fork_dec ?_ ?_ | refine fork_eq ?_ ?_ | refine fork_ne ?_ ?_ | refine fork_intro ?_ ?_) <;> intro h)
    | ((with_reducible show False); omega)
    | ((first | (with_reducible first | refine r_exit ?_ | refine r_skip ?_ | refine r_cond ?_ | refine r_region ?_ | show VX _ _ _ _ _ _ _ | show vstep _ _ _ _ _ | show vskip _ _ _ | show withV _ _) | ((with_reducible show endA _ _ _ _ _ _ _); simp -implicitDefEqProofs only [endA])); simp -dsimp -implicitDefEqProofs (maxSteps := 1000000) (disch := first | omega | (simp only [LN]; omega)) only [go_sem, Int.reduceToNat, Int.reducePow, Nat.reducePow, Int.reduceAdd, Int.reduceMul, Int.reduceSub, Int.reduceNeg, Nat.reduceAdd, Nat.reduceMul, Nat.reduceSub, Nat.reduceEqDiff, Nat.reduceLT, Nat.reduceLeDiff])
    | ((first | (with_reducible refine r_ret ?_) | (with_reducible refine pick_viewG default (by first | omega | (simp only [LN]; omega)) (by first | omega | (simp only [LN]; omega)) ?_) | (with_reducible refine pick_own default (by first | omega | (simp only [LN]; omega)) ?_) | (with_reducible refine And.intro (by first | decide | omega | assumption | (simp only [LN]; omega)) ?_) | ((with_reducible apply callK_pure); (first | exact c18 p h0 | exact c16 p h0 | exact c17 p h0 | fail)) | ((with_reducible apply callF_lend); (first | exact c18 p h0 | exact c16 p h0 | exact c17 p h0 | fail); rfl) | ((with_reducible apply callF_go); (first | exact c18 p h0 | exact c16 p h0 | exact c17 p h0 | fail)) | ((with_reducible show pickE _ _ _); first | refine pickE_intro _ ⟨by omega, by rfl⟩ ?_ | refine pickE_intro _ (by rfl) ?_) | fail); try simp -dsimp -implicitDefEqProofs (maxSteps := 1000000) (disch := first | omega | (simp only [LN]; omega)) only [go_sem, Int.reduceToNat, Int.reducePow, Nat.reducePow, Int.reduceAdd, Int.reduceMul, Int.reduceSub, Int.reduceNeg, Nat.reduceAdd, Nat.reduceMul, Nat.reduceSub, Nat.reduceEqDiff, Nat.reduceLT, Nat.reduceLeDiff])
    | fail)
  all_goals simp_all [formedM]
set_option maxRecDepth 100000 in
set_option maxHeartbeats 4000000 in
theorem c25 (p : Int) (h0 : 0 ≤ p) : PCalls Tryd.prog 25 [.v (.int .u64 p)] (.v (.bool (formedM p))) := by
  refine pcalls_of (E := E) (fn := Tryd.f25) 22 [.tmp 2] rfl rfl rfl rfl (by decide) rfl ?_
  have h1 := off_r p
  have hm := made h0
  repeat' (first
    | (with_reducible first | refine r_seq ?_ | refine r_block ?_ | refine fork_not ?_ | refine fork_and ?_ | refine fork_or ?_ | refine chk_ok (by kernel_rfl) ?_)
    | ((with_reducible first | refine fork_dec ?_ ?_ | refine fork_eq ?_ ?_ | refine fork_ne ?_ ?_ | refine fork_intro ?_ ?_) <;> intro h)
    | ((with_reducible show False); omega)
    | ((first | (with_reducible first | refine r_exit ?_ | refine r_skip ?_ | refine r_cond ?_ | refine r_region ?_ | show VX _ _ _ _ _ _ _ | show vstep _ _ _ _ _ | show vskip _ _ _ | show withV _ _) | ((with_reducible show endA _ _ _ _ _ _ _); simp -implicitDefEqProofs only [endA])); simp -dsimp -implicitDefEqProofs (maxSteps := 1000000) (disch := first | omega | (simp only [LN]; omega)) only [go_sem, Int.reduceToNat, Int.reducePow, Nat.reducePow, Int.reduceAdd, Int.reduceMul, Int.reduceSub, Int.reduceNeg, Nat.reduceAdd, Nat.reduceMul, Nat.reduceSub, Nat.reduceEqDiff, Nat.reduceLT, Nat.reduceLeDiff])
    | ((first | (with_reducible refine r_ret ?_) | (with_reducible refine pick_viewG default (by first | omega | (simp only [LN]; omega)) (by first | omega | (simp only [LN]; omega)) ?_) | (with_reducible refine pick_own default (by first | omega | (simp only [LN]; omega)) ?_) | (with_reducible refine And.intro (by first | decide | omega | assumption | (simp only [LN]; omega)) ?_) | ((with_reducible apply callK_pure); (first | exact c13 p h0 | exact c23 p h0 | exact c24 p h0 | exact c20 _ _ _ (by omega) (by omega) (gen_r p) (kind_r p) | fail)) | ((with_reducible apply callF_lend); (first | exact c13 p h0 | exact c23 p h0 | exact c24 p h0 | exact c20 _ _ _ (by omega) (by omega) (gen_r p) (kind_r p) | fail); rfl) | ((with_reducible apply callF_go); (first | exact c13 p h0 | exact c23 p h0 | exact c24 p h0 | exact c20 _ _ _ (by omega) (by omega) (gen_r p) (kind_r p) | fail)) | ((with_reducible show pickE _ _ _); first | refine pickE_intro _ ⟨by omega, by rfl⟩ ?_ | refine pickE_intro _ (by rfl) ?_) | fail); try simp -dsimp -implicitDefEqProofs (maxSteps := 1000000) (disch := first | omega | (simp only [LN]; omega)) only [go_sem, Int.reduceToNat, Int.reducePow, Nat.reducePow, Int.reduceAdd, Int.reduceMul, Int.reduceSub, Int.reduceNeg, Nat.reduceAdd, Nat.reduceMul, Nat.reduceSub, Nat.reduceEqDiff, Nat.reduceLT, Nat.reduceLeDiff])
    | fail)
  all_goals (congr 2; rw [Bool.eq_iff_iff, hm]; simp_all)
set_option maxRecDepth 100000 in
set_option maxHeartbeats 4000000 in
theorem c22 (p s : Int) (h0 : 0 ≤ p) : PCalls Tryd.prog 22 [.v (.int .u64 p), .v (.int .u64 s)] (.v (.bool (formedM p && decide (offM p < s)))) := by
  refine pcalls_of (E := E) (fn := Tryd.f22) 13 [.tmp 4] rfl rfl rfl rfl (by decide) rfl ?_
  repeat' (first
    | (with_reducible first | refine r_seq ?_ | refine r_block ?_ | refine fork_not ?_ | refine fork_and ?_ | refine fork_or ?_ | refine chk_ok (by kernel_rfl) ?_)
    | ((with_reducible first | refine fork_dec ?_ ?_ | refine fork_eq ?_ ?_ | refine fork_ne ?_ ?_ | refine fork_intro ?_ ?_) <;> intro h)
    | ((with_reducible show False); omega)
    | ((first | (with_reducible first | refine r_exit ?_ | refine r_skip ?_ | refine r_cond ?_ | refine r_region ?_ | show VX _ _ _ _ _ _ _ | show vstep _ _ _ _ _ | show vskip _ _ _ | show withV _ _) | ((with_reducible show endA _ _ _ _ _ _ _); simp -implicitDefEqProofs only [endA])); simp -dsimp -implicitDefEqProofs (maxSteps := 1000000) (disch := first | omega | (simp only [LN]; omega)) only [go_sem, Int.reduceToNat, Int.reducePow, Nat.reducePow, Int.reduceAdd, Int.reduceMul, Int.reduceSub, Int.reduceNeg, Nat.reduceAdd, Nat.reduceMul, Nat.reduceSub, Nat.reduceEqDiff, Nat.reduceLT, Nat.reduceLeDiff])
    | ((first | (with_reducible refine r_ret ?_) | (with_reducible refine pick_viewG default (by first | omega | (simp only [LN]; omega)) (by first | omega | (simp only [LN]; omega)) ?_) | (with_reducible refine pick_own default (by first | omega | (simp only [LN]; omega)) ?_) | (with_reducible refine And.intro (by first | decide | omega | assumption | (simp only [LN]; omega)) ?_) | ((with_reducible apply callK_pure); (first | exact c31 p h0 | exact c18 p h0 | fail)) | ((with_reducible apply callF_lend); (first | exact c31 p h0 | exact c18 p h0 | fail); rfl) | ((with_reducible apply callF_go); (first | exact c31 p h0 | exact c18 p h0 | fail)) | ((with_reducible show pickE _ _ _); first | refine pickE_intro _ ⟨by omega, by rfl⟩ ?_ | refine pickE_intro _ (by rfl) ?_) | fail); try simp -dsimp -implicitDefEqProofs (maxSteps := 1000000) (disch := first | omega | (simp only [LN]; omega)) only [go_sem, Int.reduceToNat, Int.reducePow, Nat.reducePow, Int.reduceAdd, Int.reduceMul, Int.reduceSub, Int.reduceNeg, Nat.reduceAdd, Nat.reduceMul, Nat.reduceSub, Nat.reduceEqDiff, Nat.reduceLT, Nat.reduceLeDiff])
    | fail)
  all_goals (congr 2; simp_all)
def atM (p w : Int) : Int := if p = 0 ∨ w < 0 ∨ 60 ≤ w then 0 else offM p + 8 * w
set_option maxRecDepth 100000 in
set_option maxHeartbeats 4000000 in
theorem c11 (p w : Int) (h0 : 0 ≤ p) (hw : -9223372036854775808 ≤ w ∧ w ≤ 9223372036854775807) : PCalls Tryd.prog 11 [.v (.int .u64 p), .v (.int .i64 w)] (.v (.int .u64 (atM p w))) := by
  refine pcalls_of (E := E) (fn := Tryd.f11) 21 [.tmp 4] rfl rfl rfl rfl (by decide) rfl ?_
  have h1 := off_r p
  repeat' (first
    | (with_reducible first | refine r_seq ?_ | refine r_block ?_ | refine fork_not ?_ | refine fork_and ?_ | refine fork_or ?_ | refine chk_ok (by kernel_rfl) ?_)
    | ((with_reducible first | refine fork_dec ?_ ?_ | refine fork_eq ?_ ?_ | refine fork_ne ?_ ?_ | refine fork_intro ?_ ?_) <;> intro h)
    | ((with_reducible show False); omega)
    | ((first | (with_reducible first | refine r_exit ?_ | refine r_skip ?_ | refine r_cond ?_ | refine r_region ?_ | show VX _ _ _ _ _ _ _ | show vstep _ _ _ _ _ | show vskip _ _ _ | show withV _ _) | ((with_reducible show endA _ _ _ _ _ _ _); simp -implicitDefEqProofs only [endA])); simp -dsimp -implicitDefEqProofs (maxSteps := 1000000) (disch := first | omega | (simp only [LN]; omega)) only [go_sem, Int.reduceToNat, Int.reducePow, Nat.reducePow, Int.reduceAdd, Int.reduceMul, Int.reduceSub, Int.reduceNeg, Nat.reduceAdd, Nat.reduceMul, Nat.reduceSub, Nat.reduceEqDiff, Nat.reduceLT, Nat.reduceLeDiff])
    | ((first | (with_reducible refine r_ret ?_) | (with_reducible refine pick_viewG default (by first | omega | (simp only [LN]; omega)) (by first | omega | (simp only [LN]; omega)) ?_) | (with_reducible refine pick_own default (by first | omega | (simp only [LN]; omega)) ?_) | (with_reducible refine And.intro (by first | decide | omega | assumption | (simp only [LN]; omega)) ?_) | ((with_reducible apply callK_pure); (first | exact c21 p | exact c18 p h0 | fail)) | ((with_reducible apply callF_lend); (first | exact c21 p | exact c18 p h0 | fail); rfl) | ((with_reducible apply callF_go); (first | exact c21 p | exact c18 p h0 | fail)) | ((with_reducible show pickE _ _ _); first | refine pickE_intro _ ⟨by omega, by rfl⟩ ?_ | refine pickE_intro _ (by rfl) ?_) | fail); try simp -dsimp -implicitDefEqProofs (maxSteps := 1000000) (disch := first | omega | (simp only [LN]; omega)) only [go_sem, Int.reduceToNat, Int.reducePow, Nat.reducePow, Int.reduceAdd, Int.reduceMul, Int.reduceSub, Int.reduceNeg, Nat.reduceAdd, Nat.reduceMul, Nat.reduceSub, Nat.reduceEqDiff, Nat.reduceLT, Nat.reduceLeDiff])
    | fail)
  all_goals (congr 2; simp only [atM, wr64, decide_eq_true_eq, decide_eq_false_iff_not] at *; split <;> omega)
def relocM (p d : Int) : Int × Int :=
  if formedM p = false ∨ ¬ d % 8 = 0 then (0, 1) else if offM p + d < 8 ∨ 34359738360 < offM p + d then (0, 2) else makeM (offM p + d) (genM p) (kindM p)
theorem tmod8 (d : Int) : d.tmod 8 = 0 ↔ d % 8 = 0 := by
  rw [Int.tmod_eq_emod]; split <;> omega
theorem rl1a {p d : Int} (h : formedM p = false) : relocM p d = (0, 1) := by unfold relocM; rw [if_pos (.inl h)]
theorem rl1b {p d : Int} (h : ¬ d.tmod 8 = 0) : relocM p d = (0, 1) := by unfold relocM; rw [if_pos (.inr fun e => h ((tmod8 d).2 e))]
theorem rl0 {p d : Int} (hf : formedM p = true) (h : d.tmod 8 = 0) : ¬ (formedM p = false ∨ ¬ d % 8 = 0) := by rw [tmod8] at h; simp [hf, h]
theorem rl2 {p d : Int} (hf : formedM p = true) (h : d.tmod 8 = 0) (h2 : offM p + d < 8 ∨ 34359738360 < offM p + d) : relocM p d = (0, 2) := by unfold relocM; rw [if_neg (rl0 hf h), if_pos h2]
theorem rl3 {p d : Int} (hf : formedM p = true) (h : d.tmod 8 = 0) (h2 : ¬ (offM p + d < 8 ∨ 34359738360 < offM p + d)) : relocM p d = makeM (offM p + d) (genM p) (kindM p) := by unfold relocM; rw [if_neg (rl0 hf h), if_neg h2]
set_option maxRecDepth 100000 in
set_option maxHeartbeats 4000000 in
theorem c14 (p d : Int) (h0 : 0 ≤ p) (hd : -9223372036854775808 ≤ d ∧ d ≤ 9223372036854775807) : PCalls Tryd.prog 14 [.v (.int .u64 p), .v (.int .i64 d)] (.tup [.v (.int .u64 (relocM p d).1), .v (.int .i64 (relocM p d).2)]) := by
  refine pcalls_of (E := E) (fn := Tryd.f14) 37 [.tmp 4, .tmp 5] rfl rfl rfl rfl (by decide) rfl ?_
  have h1 := off_r p
  have hw1 : IntKind.i64.wrap (offM p) = offM p := wrap_i64 (by omega) (by omega)
  by_cases hb : 34359738360 < d
  · repeat' (first
      | (with_reducible first | refine r_seq ?_ | refine r_block ?_ | refine fork_not ?_ | refine fork_and ?_ | refine fork_or ?_ | refine chk_ok (by kernel_rfl) ?_)
      | ((with_reducible first | refine fork_dec ?_ ?_ | refine fork_eq ?_ ?_ | refine fork_ne ?_ ?_ | refine fork_intro ?_ ?_) <;> intro h)
      | ((with_reducible show False); omega)
      | ((first | (with_reducible first | refine r_exit ?_ | refine r_skip ?_ | refine r_cond ?_ | refine r_region ?_ | show VX _ _ _ _ _ _ _ | show vstep _ _ _ _ _ | show vskip _ _ _ | show withV _ _) | ((with_reducible show endA _ _ _ _ _ _ _); simp -implicitDefEqProofs only [endA])); simp -dsimp -implicitDefEqProofs (maxSteps := 1000000) (disch := first | omega | (simp only [LN, hw1]; omega)) only [go_sem, Int.reduceToNat, Int.reducePow, Nat.reducePow, Int.reduceAdd, Int.reduceMul, Int.reduceSub, Int.reduceNeg, Nat.reduceAdd, Nat.reduceMul, Nat.reduceSub, Nat.reduceEqDiff, Nat.reduceLT, Nat.reduceLeDiff, hw1])
      | ((first | (with_reducible refine r_ret ?_) | (with_reducible refine pick_viewG default (by first | omega | (simp only [LN, hw1]; omega)) (by first | omega | (simp only [LN, hw1]; omega)) ?_) | (with_reducible refine pick_own default (by first | omega | (simp only [LN, hw1]; omega)) ?_) | (with_reducible refine And.intro (by first | decide | omega | assumption | (simp only [LN, hw1]; omega)) ?_) | ((with_reducible apply callK_pure); (first | exact c31 p h0 | exact c18 p h0 | fail)) | ((with_reducible apply callF_lend); (first | exact c31 p h0 | exact c18 p h0 | fail); rfl) | ((with_reducible apply callF_go); (first | exact c31 p h0 | exact c18 p h0 | fail)) | ((with_reducible show pickE _ _ _); first | refine pickE_intro _ ⟨by omega, by rfl⟩ ?_ | refine pickE_intro _ (by rfl) ?_) | fail); try simp -dsimp -implicitDefEqProofs (maxSteps := 1000000) (disch := first | omega | (simp only [LN, hw1]; omega)) only [go_sem, Int.reduceToNat, Int.reducePow, Nat.reducePow, Int.reduceAdd, Int.reduceMul, Int.reduceSub, Int.reduceNeg, Nat.reduceAdd, Nat.reduceMul, Nat.reduceSub, Nat.reduceEqDiff, Nat.reduceLT, Nat.reduceLeDiff, hw1])
      | fail)
    all_goals first
      | (rw [rl1a ‹_›]; exact ⟨rfl, rfl⟩)
      | (rw [rl1b ‹_›]; exact ⟨rfl, rfl⟩)
      | (rw [rl2 ‹_› ‹_› (by omega)]; exact ⟨rfl, rfl⟩)
  · repeat' (first
      | (with_reducible first | refine r_seq ?_ | refine r_block ?_ | refine fork_not ?_ | refine fork_and ?_ | refine fork_or ?_ | refine chk_ok (by kernel_rfl) ?_)
      | ((with_reducible first | refine fork_dec ?_ ?_ | refine fork_eq ?_ ?_ | refine fork_ne ?_ ?_ | refine fork_intro ?_ ?_) <;> intro h)
      | ((with_reducible show False); omega)
      | ((first | (with_reducible first | refine r_exit ?_ | refine r_skip ?_ | refine r_cond ?_ | refine r_region ?_ | show VX _ _ _ _ _ _ _ | show vstep _ _ _ _ _ | show vskip _ _ _ | show withV _ _) | ((with_reducible show endA _ _ _ _ _ _ _); simp -implicitDefEqProofs only [endA])); simp -dsimp -implicitDefEqProofs (maxSteps := 1000000) (disch := first | omega | (simp only [LN, hw1, wrap_u64]; omega)) only [go_sem, Int.reduceToNat, Int.reducePow, Nat.reducePow, Int.reduceAdd, Int.reduceMul, Int.reduceSub, Int.reduceNeg, Nat.reduceAdd, Nat.reduceMul, Nat.reduceSub, Nat.reduceEqDiff, Nat.reduceLT, Nat.reduceLeDiff, hw1, wrap_u64])
      | ((first | (with_reducible refine r_ret ?_) | (with_reducible refine pick_viewG default (by first | omega | (simp only [LN, hw1, wrap_u64]; omega)) (by first | omega | (simp only [LN, hw1, wrap_u64]; omega)) ?_) | (with_reducible refine pick_own default (by first | omega | (simp only [LN, hw1, wrap_u64]; omega)) ?_) | (with_reducible refine And.intro (by first | decide | omega | assumption | (simp only [LN, hw1, wrap_u64]; omega)) ?_) | ((with_reducible apply callK_pure); (first | exact c31 p h0 | exact c18 p h0 | exact c16 p h0 | exact c17 p h0 | exact c19 (offM p + d) (genM p) (kindM p) (by omega) (gen_r p) (kind_r p) | fail)) | ((with_reducible apply callF_lend); (first | exact c31 p h0 | exact c18 p h0 | exact c16 p h0 | exact c17 p h0 | exact c19 (offM p + d) (genM p) (kindM p) (by omega) (gen_r p) (kind_r p) | fail); rfl) | ((with_reducible apply callF_go); (first | exact c31 p h0 | exact c18 p h0 | exact c16 p h0 | exact c17 p h0 | exact c19 (offM p + d) (genM p) (kindM p) (by omega) (gen_r p) (kind_r p) | fail)) | ((with_reducible show pickE _ _ _); first | refine pickE_intro _ ⟨by omega, by rfl⟩ ?_ | refine pickE_intro _ (by rfl) ?_) | fail); try simp -dsimp -implicitDefEqProofs (maxSteps := 1000000) (disch := first | omega | (simp only [LN, hw1, wrap_u64]; omega)) only [go_sem, Int.reduceToNat, Int.reducePow, Nat.reducePow, Int.reduceAdd, Int.reduceMul, Int.reduceSub, Int.reduceNeg, Nat.reduceAdd, Nat.reduceMul, Nat.reduceSub, Nat.reduceEqDiff, Nat.reduceLT, Nat.reduceLeDiff, hw1, wrap_u64])
      | fail)
    all_goals first
      | (rw [rl1a ‹_›]; exact ⟨rfl, rfl⟩)
      | (rw [rl1b ‹_›]; exact ⟨rfl, rfl⟩)
      | (rw [rl2 ‹_› ‹_› (by omega)]; exact ⟨rfl, rfl⟩)
      | (rw [rl3 ‹_› ‹_› (by omega)]; exact ⟨rfl, rfl⟩)
theorem tm8 {d : Int} (h : d.tmod 8 = 0) : 8 * d.tdiv 8 = d := by
  have := Int.mul_tdiv_add_tmod d 8
  rw [h] at this; omega
set_option maxRecDepth 100000 in
set_option maxHeartbeats 4000000 in
theorem c15 (p d : Int) (h0 : 0 ≤ p) (hd : -9223372036854775808 ≤ d ∧ d ≤ 9223372036854775807) : PCalls Tryd.prog 15 [.v (.int .u64 p), .v (.int .i64 d)] (.tup [.v (.int .u64 (relocM p d).1), .v (.int .i64 (relocM p d).2)]) := by
  refine pcalls_of (E := E) (fn := Tryd.f15) 43 [.tmp 4, .tmp 5] rfl rfl rfl rfl (by decide) rfl ?_
  have h1 := off_r p
  have hn : p.tmod 4294967296 = offM p / 8 := by rw [Int.tmod_eq_emod_of_nonneg h0]; omega
  have hw1 : IntKind.i64.wrap (offM p / 8) = offM p / 8 := wrap_i64 (by omega) (by omega)
  by_cases hm : d.tmod 8 = 0
  · have ht := tm8 hm
    have hw2 : IntKind.i64.wrap (d.tdiv 8) = d.tdiv 8 := wrap_i64 (by omega) (by omega)
    have hw3 : IntKind.i64.wrap (1 - offM p / 8) = 1 - offM p / 8 := wrap_i64 (by omega) (by omega)
    have hw4 : IntKind.i64.wrap (4294967296 - offM p / 8) = 4294967296 - offM p / 8 := wrap_i64 (by omega) (by omega)
    by_cases hr : 8 ≤ offM p + d ∧ offM p + d ≤ 34359738360
    · have hw5 : IntKind.i64.wrap (offM p / 8 + d.tdiv 8) = offM p / 8 + d.tdiv 8 := wrap_i64 (by omega) (by omega)
      have hw6 : IntKind.u64.wrap (offM p / 8 + d.tdiv 8) = offM p / 8 + d.tdiv 8 := by rw [wr64]; omega
      have hw7 : IntKind.u64.wrap ((offM p / 8 + d.tdiv 8) * 8) = offM p + d := by rw [wr64]; omega
      repeat' (first
        | (with_reducible first | refine r_seq ?_ | refine r_block ?_ | refine fork_not ?_ | refine fork_and ?_ | refine fork_or ?_ | refine chk_ok (by kernel_rfl) ?_)
        | ((with_reducible first | refine fork_dec ?_ ?_ | refine fork_eq ?_ ?_ | refine fork_ne ?_ ?_ | refine fork_intro ?_ ?_) <;> intro h)
        | ((with_reducible show False); omega)
        | ((first | (with_reducible first | refine r_exit ?_ | refine r_skip ?_ | refine r_cond ?_ | refine r_region ?_ | show VX _ _ _ _ _ _ _ | show vstep _ _ _ _ _ | show vskip _ _ _ | show withV _ _) | ((with_reducible show endA _ _ _ _ _ _ _); simp -implicitDefEqProofs only [endA])); simp -dsimp -implicitDefEqProofs (maxSteps := 1000000) (disch := first | omega | (simp only [LN, hn, hw1, hw2, hw3, hw4, hw5, hw6, hw7]; omega)) only [go_sem, Int.reduceToNat, Int.reducePow, Nat.reducePow, Int.reduceAdd, Int.reduceMul, Int.reduceSub, Int.reduceNeg, Nat.reduceAdd, Nat.reduceMul, Nat.reduceSub, Nat.reduceEqDiff, Nat.reduceLT, Nat.reduceLeDiff, hn, hw1, hw2, hw3, hw4, hw5, hw6, hw7])
        | ((first | (with_reducible refine r_ret ?_) | (with_reducible refine pick_viewG default (by first | omega | (simp only [LN, hn, hw1, hw2, hw3, hw4, hw5, hw6, hw7]; omega)) (by first | omega | (simp only [LN, hn, hw1, hw2, hw3, hw4, hw5, hw6, hw7]; omega)) ?_) | (with_reducible refine pick_own default (by first | omega | (simp only [LN, hn, hw1, hw2, hw3, hw4, hw5, hw6, hw7]; omega)) ?_) | (with_reducible refine And.intro (by first | decide | omega | assumption | (simp only [LN, hn, hw1, hw2, hw3, hw4, hw5, hw6, hw7]; omega)) ?_) | ((with_reducible apply callK_pure); (first | exact c25 p h0 | exact c23 p h0 | exact c24 p h0 | exact c20 (offM p + d) (genM p) (kindM p) (by omega) (by omega) (gen_r p) (kind_r p) | fail)) | ((with_reducible apply callF_lend); (first | exact c25 p h0 | exact c23 p h0 | exact c24 p h0 | exact c20 (offM p + d) (genM p) (kindM p) (by omega) (by omega) (gen_r p) (kind_r p) | fail); rfl) | ((with_reducible apply callF_go); (first | exact c25 p h0 | exact c23 p h0 | exact c24 p h0 | exact c20 (offM p + d) (genM p) (kindM p) (by omega) (by omega) (gen_r p) (kind_r p) | fail)) | ((with_reducible show pickE _ _ _); first | refine pickE_intro _ ⟨by omega, by rfl⟩ ?_ | refine pickE_intro _ (by rfl) ?_) | fail); try simp -dsimp -implicitDefEqProofs (maxSteps := 1000000) (disch := first | omega | (simp only [LN, hn, hw1, hw2, hw3, hw4, hw5, hw6, hw7]; omega)) only [go_sem, Int.reduceToNat, Int.reducePow, Nat.reducePow, Int.reduceAdd, Int.reduceMul, Int.reduceSub, Int.reduceNeg, Nat.reduceAdd, Nat.reduceMul, Nat.reduceSub, Nat.reduceEqDiff, Nat.reduceLT, Nat.reduceLeDiff, hn, hw1, hw2, hw3, hw4, hw5, hw6, hw7])
        | fail)
      all_goals first
        | (rw [rl1a ‹_›]; exact ⟨rfl, rfl⟩)
        | (rw [rl3 ‹_› hm (by omega)]; exact ⟨rfl, rfl⟩)
        | (exfalso; omega)
    · repeat' (first
        | (with_reducible first | refine r_seq ?_ | refine r_block ?_ | refine fork_not ?_ | refine fork_and ?_ | refine fork_or ?_ | refine chk_ok (by kernel_rfl) ?_)
        | ((with_reducible first | refine fork_dec ?_ ?_ | refine fork_eq ?_ ?_ | refine fork_ne ?_ ?_ | refine fork_intro ?_ ?_) <;> intro h)
        | ((with_reducible show False); omega)
        | ((first | (with_reducible first | refine r_exit ?_ | refine r_skip ?_ | refine r_cond ?_ | refine r_region ?_ | show VX _ _ _ _ _ _ _ | show vstep _ _ _ _ _ | show vskip _ _ _ | show withV _ _) | ((with_reducible show endA _ _ _ _ _ _ _); simp -implicitDefEqProofs only [endA])); simp -dsimp -implicitDefEqProofs (maxSteps := 1000000) (disch := first | omega | (simp only [LN, hn, hw1, hw2, hw3, hw4]; omega)) only [go_sem, Int.reduceToNat, Int.reducePow, Nat.reducePow, Int.reduceAdd, Int.reduceMul, Int.reduceSub, Int.reduceNeg, Nat.reduceAdd, Nat.reduceMul, Nat.reduceSub, Nat.reduceEqDiff, Nat.reduceLT, Nat.reduceLeDiff, hn, hw1, hw2, hw3, hw4])
        | ((first | (with_reducible refine r_ret ?_) | (with_reducible refine pick_viewG default (by first | omega | (simp only [LN, hn, hw1, hw2, hw3, hw4]; omega)) (by first | omega | (simp only [LN, hn, hw1, hw2, hw3, hw4]; omega)) ?_) | (with_reducible refine pick_own default (by first | omega | (simp only [LN, hn, hw1, hw2, hw3, hw4]; omega)) ?_) | (with_reducible refine And.intro (by first | decide | omega | assumption | (simp only [LN, hn, hw1, hw2, hw3, hw4]; omega)) ?_) | ((with_reducible apply callK_pure); (exact c25 p h0)) | ((with_reducible apply callF_lend); (exact c25 p h0); rfl) | ((with_reducible apply callF_go); (exact c25 p h0)) | ((with_reducible show pickE _ _ _); first | refine pickE_intro _ ⟨by omega, by rfl⟩ ?_ | refine pickE_intro _ (by rfl) ?_) | fail); try simp -dsimp -implicitDefEqProofs (maxSteps := 1000000) (disch := first | omega | (simp only [LN, hn, hw1, hw2, hw3, hw4]; omega)) only [go_sem, Int.reduceToNat, Int.reducePow, Nat.reducePow, Int.reduceAdd, Int.reduceMul, Int.reduceSub, Int.reduceNeg, Nat.reduceAdd, Nat.reduceMul, Nat.reduceSub, Nat.reduceEqDiff, Nat.reduceLT, Nat.reduceLeDiff, hn, hw1, hw2, hw3, hw4])
        | fail)
      all_goals first
        | (rw [rl1a ‹_›]; exact ⟨rfl, rfl⟩)
        | (rw [rl2 ‹_› hm (by omega)]; exact ⟨rfl, rfl⟩)
        | (exfalso; omega)
        | skip
      all_goals (exfalso; omega)
  · repeat' (first
      | (with_reducible first | refine r_seq ?_ | refine r_block ?_ | refine fork_not ?_ | refine fork_and ?_ | refine fork_or ?_ | refine chk_ok (by kernel_rfl) ?_)
      | ((with_reducible first | refine fork_dec ?_ ?_ | refine fork_eq ?_ ?_ | refine fork_ne ?_ ?_ | refine fork_intro ?_ ?_) <;> intro h)
      | ((with_reducible show False); omega)
      | ((first | (with_reducible first | refine r_exit ?_ | refine r_skip ?_ | refine r_cond ?_ | refine r_region ?_ | show VX _ _ _ _ _ _ _ | show vstep _ _ _ _ _ | show vskip _ _ _ | show withV _ _) | ((with_reducible show endA _ _ _ _ _ _ _); simp -implicitDefEqProofs only [endA])); simp -dsimp -implicitDefEqProofs (maxSteps := 1000000) (disch := first | omega | (simp only [LN]; omega)) only [go_sem, Int.reduceToNat, Int.reducePow, Nat.reducePow, Int.reduceAdd, Int.reduceMul, Int.reduceSub, Int.reduceNeg, Nat.reduceAdd, Nat.reduceMul, Nat.reduceSub, Nat.reduceEqDiff, Nat.reduceLT, Nat.reduceLeDiff])
      | ((first | (with_reducible refine r_ret ?_) | (with_reducible refine pick_viewG default (by first | omega | (simp only [LN]; omega)) (by first | omega | (simp only [LN]; omega)) ?_) | (with_reducible refine pick_own default (by first | omega | (simp only [LN]; omega)) ?_) | (with_reducible refine And.intro (by first | decide | omega | assumption | (simp only [LN]; omega)) ?_) | ((with_reducible apply callK_pure); (exact c25 p h0)) | ((with_reducible apply callF_lend); (exact c25 p h0); rfl) | ((with_reducible apply callF_go); (exact c25 p h0)) | ((with_reducible show pickE _ _ _); first | refine pickE_intro _ ⟨by omega, by rfl⟩ ?_ | refine pickE_intro _ (by rfl) ?_) | fail); try simp -dsimp -implicitDefEqProofs (maxSteps := 1000000) (disch := first | omega | (simp only [LN]; omega)) only [go_sem, Int.reduceToNat, Int.reducePow, Nat.reducePow, Int.reduceAdd, Int.reduceMul, Int.reduceSub, Int.reduceNeg, Nat.reduceAdd, Nat.reduceMul, Nat.reduceSub, Nat.reduceEqDiff, Nat.reduceLT, Nat.reduceLeDiff])
      | fail)
    all_goals first
      | (rw [rl1a ‹_›]; exact ⟨rfl, rfl⟩)
      | (rw [rl1b hm]; exact ⟨rfl, rfl⟩)
      | contradiction
end Go.Proofs.YtkmobahedfdikaaDoor
