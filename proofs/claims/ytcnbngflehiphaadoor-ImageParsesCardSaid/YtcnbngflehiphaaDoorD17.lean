/- Contracts of functions of this program, and the plain facts that they rest on. No conditions. -/
import Derived.Test.YtcnbngflehiphaaDoorD16
set_option linter.unusedSimpArgs false
set_option linter.unusedVariables false
namespace Go.Proofs.YtcnbngflehiphaaDoor
open Go Go.Ab
attribute [local irreducible] callK callF loopQ vstep vskip pickE hideP
open Go.RowKit
attribute [local go_sem] eI byteAt_bs app_bs
set_option maxRecDepth 100000
/-! A line. -/
def partOk (r : List UInt8) (k : Nat) : Bool := decide (r.getD (17 * k) 0 = 32) && hxOk ((r.drop (17 * k + 1)).take 16)
def partV (r : List UInt8) (k : Nat) : Nat := hxV ((r.drop (17 * k + 1)).take 16)
def cellW (r : List UInt8) (k j : Nat) : PV := .v (.int .u64 ((if j < k then partV r j else 0 : Nat) : Int))
def cellsW (r : List UInt8) (k : Nat) : List PV := [cellW r k 0, cellW r k 1, cellW r k 2, cellW r k 3, cellW r k 4, cellW r k 5, cellW r k 6, cellW r k 7]
theorem eight {t : Nat} (h : t < 8) : t = 0 ∨ t = 1 ∨ t = 2 ∨ t = 3 ∨ t = 4 ∨ t = 5 ∨ t = 6 ∨ t = 7 := by omega
theorem part_e (r : List UInt8) (k : Nat) : List.drop 1 (List.take 17 (List.drop (17 * k) r)) = (r.drop (17 * k + 1)).take 16 := by
  rw [List.drop_take, List.drop_drop]
theorem part_0 (r : List UInt8) (k : Nat) : (List.take 17 (List.drop (17 * k) r)).getD 0 0 = r.getD (17 * k) 0 := by
  rw [List.getD_eq_getElem?_getD, List.getElem?_take, if_pos (by decide), List.getElem?_drop, Nat.add_zero, ← List.getD_eq_getElem?_getD]
theorem c89p (r : List UInt8) (k : Nat) (h : r.length = 136) : PCalls Tryd.prog 89 [.v (.string (bs (List.drop 1 (List.take 17 (List.drop (17 * k) r)))))] (.tup [.v (.int .u64 (partV r k)), .v (.bool (hxOk ((r.drop (17 * k + 1)).take 16)))]) := by
  rw [part_e]; exact c89 _ (by rw [List.length_take]; omega)
theorem cells_set (r : List UInt8) (k : Nat) (h : k < 8) : [AV.p (cellW r k 0), AV.p (cellW r k 1), AV.p (cellW r k 2), AV.p (cellW r k 3), AV.p (cellW r k 4), AV.p (cellW r k 5), AV.p (cellW r k 6), AV.p (cellW r k 7)].set k (AV.p (PV.v (Value.int IntKind.u64 (partV r k : Int)))) = [AV.p (cellW r (k + 1) 0), AV.p (cellW r (k + 1) 1), AV.p (cellW r (k + 1) 2), AV.p (cellW r (k + 1) 3), AV.p (cellW r (k + 1) 4), AV.p (cellW r (k + 1) 5), AV.p (cellW r (k + 1) 6), AV.p (cellW r (k + 1) 7)] := by
  rcases eight h with rfl | rfl | rfl | rfl | rfl | rfl | rfl | rfl <;> rfl
theorem part_iff {r : List UInt8} {k : Nat} : partOk r k = true ↔ r.getD (17 * k) 0 = 32 ∧ hxOk ((r.drop (17 * k + 1)).take 16) = true := by
  unfold partOk; rw [Bool.and_eq_true, decide_eq_true_iff]
theorem u32' {c : UInt8} : ((c.toNat : Int) = 32) ↔ c = 32 := by
  constructor
  · intro h; apply u8_ext; show c.toNat = 32; omega
  · rintro rfl; rfl
set_option maxRecDepth 100000 in
set_option maxHeartbeats 4000000 in
theorem c66m (hd r : List UInt8) (m : Nat) (hl : hd.length ≤ 1000000) (h1 : numOk 4096 hd = true) (h2 : r.length = 136) (hx : (58 : UInt8) ∉ hd) (hm : m ≤ 8) (hp : ∀ k, k < m → partOk r k = true) (hb : m = 8 ∨ partOk r m = false) : PCalls Tryd.prog 66 [.v (.string (bs (hd ++ 58 :: r)))] (.tup [.v (.int .i64 (if m = 8 then (valA 0 hd : Int) else 0)), .agg (cellsW r m), .v (.bool (decide (m = 8)))]) := by
  refine pcalls_of (E := E) (fn := Tryd.f66) 68 [.tmp 2, .cell 3 115, .tmp 4] rfl rfl rfl rfl (by decide) rfl ?_
  have k63 := c63h hd r 58 hx (by omega)
  have k65 := c65 hd 4096 (by omega) (by decide)
  rw [numV, if_pos h1, h1] at k65
  repeat' (first
    | (with_reducible first | refine r_seq ?_ | refine r_block ?_ | refine fork_not ?_ | refine fork_and ?_ | refine fork_or ?_ | refine chk_ok (by kernel_rfl) ?_)
    | ((with_reducible first | refine fork_dec ?_ ?_ | refine fork_eq ?_ ?_ | refine fork_ne ?_ ?_ | refine fork_intro ?_ ?_) <;> intro h <;> try (exfalso; first | omega | exact h rfl | (revert h; decide) | (cases h; done)))
    | ((with_reducible show False); omega)
    | ((first | (with_reducible first | refine r_exit ?_ | refine r_skip ?_ | refine r_cond ?_ | refine r_region ?_ | show VX _ _ _ _ _ _ _ | show vstep _ _ _ _ _ | show vskip _ _ _ | show withV _ _) | ((with_reducible show endA _ _ _ _ _ _ _); simp -implicitDefEqProofs only [endA])); simp -dsimp -implicitDefEqProofs (maxSteps := 1000000) (disch := first | omega | (simp only [LN]; omega)) only [go_sem, Int.reduceToNat, Int.reducePow, Nat.reducePow, Int.reduceAdd, Int.reduceMul, Int.reduceSub, Int.reduceNeg, Nat.reduceAdd, Nat.reduceMul, Nat.reduceSub, Nat.reduceEqDiff, Nat.reduceLT, Nat.reduceLeDiff])
    | ((first | (with_reducible refine r_ret ?_) | (with_reducible refine pick_viewG default (by first | omega | (simp only [LN]; omega)) (by first | omega | (simp only [LN]; omega)) ?_) | (with_reducible refine pick_own default (by first | omega | (simp only [LN]; omega)) ?_) | (with_reducible refine And.intro (by first | decide | omega | assumption | (simp only [LN]; omega)) ?_) | ((with_reducible apply callK_pure); (first | exact k63 | exact k65 | fail)) | ((with_reducible apply callF_lend); (first | exact k63 | exact k65 | fail); rfl) | ((with_reducible apply callF_go); (first | exact k63 | exact k65 | fail)) | ((with_reducible show pickE _ _ _); first | refine pickE_intro _ ⟨by omega, by rfl⟩ ?_ | refine pickE_intro _ (by rfl) ?_) | fail); try simp -dsimp -implicitDefEqProofs (maxSteps := 1000000) (disch := first | omega | (simp only [LN]; omega)) only [go_sem, Int.reduceToNat, Int.reducePow, Nat.reducePow, Int.reduceAdd, Int.reduceMul, Int.reduceSub, Int.reduceNeg, Nat.reduceAdd, Nat.reduceMul, Nat.reduceSub, Nat.reduceEqDiff, Nat.reduceLT, Nat.reduceLeDiff])
    | fail)
  refine r_loopA (α := Nat) [3, 5, 7, 9] (fun k b => [(38, aI k)]) (fun k b => [(5, .var [.p (cellW r k 0), .p (cellW r k 1), .p (cellW r k 2), .p (cellW r k 3), .p (cellW r k 4), .p (cellW r k 5), .p (cellW r k 6), .p (cellW r k 7)])]) (fun k => []) (fun k => k ≤ m) (fun k => 8 - k) (0) ?h0_1 ?hs0_1 ?I_1 ?hI_1 ?round_1
  case hI_1 => intro x; (simp -dsimp -implicitDefEqProofs (maxSteps := 1000000) (disch := first | omega | (simp only [LN]; omega)) only [go_sem, Int.reduceToNat, Int.reducePow, Nat.reducePow, Int.reduceAdd, Int.reduceMul, Int.reduceSub, Int.reduceNeg, Nat.reduceAdd, Nat.reduceMul, Nat.reduceSub, Nat.reduceEqDiff, Nat.reduceLT, Nat.reduceLeDiff]) <;> exact rfl
  case hs0_1 => refine wk_auto ?_; (simp -dsimp -implicitDefEqProofs (maxSteps := 1000000) (disch := first | omega | (simp only [LN, cellsW, cellW, Nat.not_lt_zero, if_false, Int.ofNat_zero]; omega)) only [go_sem, Int.reduceToNat, Int.reducePow, Nat.reducePow, Int.reduceAdd, Int.reduceMul, Int.reduceSub, Int.reduceNeg, Nat.reduceAdd, Nat.reduceMul, Nat.reduceSub, Nat.reduceEqDiff, Nat.reduceLT, Nat.reduceLeDiff, cellsW, cellW, Nat.not_lt_zero, if_false, Int.ofNat_zero]) <;> (try omega)
  case h0_1 => exact Nat.zero_le _
  case round_1 =>
    intro k hk
    have e1 : (17 * ((k : Int) + 1)).toNat = 17 * k + 17 := by omega
    have e4 : 17 * k + 17 - 17 * k = 17 := by omega
    have e2 : (17 * (k : Int)).toNat = 17 * k := by omega
    have e3 := part_0 r k
    have k89 := c89p r k h2
    by_cases hkm : k < m
    · obtain ⟨g1, g2⟩ := part_iff.1 (hp k hkm)
      have g1' := u32'.2 g1
      rw [g2] at k89
      have e5 : decide (k ≤ 7) = true := decide_eq_true (by omega)
      have e6 := cells_set r k (by omega)
      repeat' (first
        | (with_reducible first | refine r_seq ?_ | refine r_block ?_ | refine fork_not ?_ | refine fork_and ?_ | refine fork_or ?_ | refine chk_ok (by kernel_rfl) ?_)
        | ((with_reducible first | refine fork_dec ?_ ?_ | refine fork_eq ?_ ?_ | refine fork_ne ?_ ?_ | refine fork_intro ?_ ?_) <;> intro h <;> try (exfalso; first | omega | exact h rfl | (revert h; decide) | (cases h; done)))
        | ((with_reducible show False); omega)
        | ((first | (with_reducible first | refine r_exit ?_ | refine r_skip ?_ | refine r_cond ?_ | refine r_region ?_ | show VX _ _ _ _ _ _ _ | show vstep _ _ _ _ _ | show vskip _ _ _ | show withV _ _) | ((with_reducible show endA _ _ _ _ _ _ _); simp -implicitDefEqProofs only [endA])); simp -dsimp -implicitDefEqProofs (maxSteps := 1000000) (disch := first | omega | (simp only [LN, cellsW, e1, e2, e4, e3, g1', Nat.mul_one, e5, e6]; omega)) only [go_sem, Int.reduceToNat, Int.reducePow, Nat.reducePow, Int.reduceAdd, Int.reduceMul, Int.reduceSub, Int.reduceNeg, Nat.reduceAdd, Nat.reduceMul, Nat.reduceSub, Nat.reduceEqDiff, Nat.reduceLT, Nat.reduceLeDiff, cellsW, e1, e2, e4, e3, g1', Nat.mul_one, e5, e6])
        | ((first | (with_reducible refine r_ret ?_) | (with_reducible refine pick_viewG default (by first | omega | (simp only [LN, cellsW, e1, e2, e4, e3, g1', Nat.mul_one, e5, e6]; omega)) (by first | omega | (simp only [LN, cellsW, e1, e2, e4, e3, g1', Nat.mul_one, e5, e6]; omega)) ?_) | (with_reducible refine pick_own default (by first | omega | (simp only [LN, cellsW, e1, e2, e4, e3, g1', Nat.mul_one, e5, e6]; omega)) ?_) | (with_reducible refine And.intro (by first | decide | omega | assumption | (simp only [LN, cellsW, e1, e2, e4, e3, g1', Nat.mul_one, e5, e6]; omega)) ?_) | ((with_reducible apply callK_pure); (exact k89)) | ((with_reducible apply callF_lend); (exact k89); rfl) | ((with_reducible apply callF_go); (exact k89)) | ((with_reducible show pickE _ _ _); first | refine pickE_intro _ ⟨by omega, by rfl⟩ ?_ | refine pickE_intro _ (by rfl) ?_) | fail); try simp -dsimp -implicitDefEqProofs (maxSteps := 1000000) (disch := first | omega | (simp only [LN, cellsW, e1, e2, e4, e3, g1', Nat.mul_one, e5, e6]; omega)) only [go_sem, Int.reduceToNat, Int.reducePow, Nat.reducePow, Int.reduceAdd, Int.reduceMul, Int.reduceSub, Int.reduceNeg, Nat.reduceAdd, Nat.reduceMul, Nat.reduceSub, Nat.reduceEqDiff, Nat.reduceLT, Nat.reduceLeDiff, cellsW, e1, e2, e4, e3, g1', Nat.mul_one, e5, e6])
        | fail)
      (refine loopQ_next (k + 1) ?_ ?_ ?_; (omega); (show _ < _; omega); (simp -dsimp -implicitDefEqProofs (maxSteps := 1000000) (disch := first | omega | (simp only [LN]; omega)) only [go_sem, Int.reduceToNat, Int.reducePow, Nat.reducePow, Int.reduceAdd, Int.reduceMul, Int.reduceSub, Int.reduceNeg, Nat.reduceAdd, Nat.reduceMul, Nat.reduceSub, Nat.reduceEqDiff, Nat.reduceLT, Nat.reduceLeDiff]; try trivial))
    · obtain rfl : k = m := by omega
      repeat' (first
        | (with_reducible first | refine r_seq ?_ | refine r_block ?_ | refine fork_not ?_ | refine fork_and ?_ | refine fork_or ?_ | refine chk_ok (by kernel_rfl) ?_)
        | ((with_reducible first | refine fork_dec ?_ ?_ | refine fork_eq ?_ ?_ | refine fork_ne ?_ ?_ | refine fork_intro ?_ ?_) <;> intro h <;> try (exfalso; first | omega | exact h rfl | (revert h; decide) | (cases h; done)))
        | ((with_reducible show False); omega)
        | ((first | (with_reducible first | refine r_exit ?_ | refine r_skip ?_ | refine r_cond ?_ | refine r_region ?_ | show VX _ _ _ _ _ _ _ | show vstep _ _ _ _ _ | show vskip _ _ _ | show withV _ _) | ((with_reducible show endA _ _ _ _ _ _ _); simp -implicitDefEqProofs only [endA])); simp -dsimp -implicitDefEqProofs (maxSteps := 1000000) (disch := first | omega | (simp only [LN, cellsW, e1, e2, e4, e3]; omega)) only [go_sem, Int.reduceToNat, Int.reducePow, Nat.reducePow, Int.reduceAdd, Int.reduceMul, Int.reduceSub, Int.reduceNeg, Nat.reduceAdd, Nat.reduceMul, Nat.reduceSub, Nat.reduceEqDiff, Nat.reduceLT, Nat.reduceLeDiff, cellsW, e1, e2, e4, e3])
        | ((first | (with_reducible refine r_ret ?_) | (with_reducible refine pick_viewG default (by first | omega | (simp only [LN, cellsW, e1, e2, e4, e3]; omega)) (by first | omega | (simp only [LN, cellsW, e1, e2, e4, e3]; omega)) ?_) | (with_reducible refine pick_own default (by first | omega | (simp only [LN, cellsW, e1, e2, e4, e3]; omega)) ?_) | (with_reducible refine And.intro (by first | decide | omega | assumption | (simp only [LN, cellsW, e1, e2, e4, e3]; omega)) ?_) | ((with_reducible apply callK_pure); (exact k89)) | ((with_reducible apply callF_lend); (exact k89); rfl) | ((with_reducible apply callF_go); (exact k89)) | ((with_reducible show pickE _ _ _); first | refine pickE_intro _ ⟨by omega, by rfl⟩ ?_ | refine pickE_intro _ (by rfl) ?_) | fail); try simp -dsimp -implicitDefEqProofs (maxSteps := 1000000) (disch := first | omega | (simp only [LN, cellsW, e1, e2, e4, e3]; omega)) only [go_sem, Int.reduceToNat, Int.reducePow, Nat.reducePow, Int.reduceAdd, Int.reduceMul, Int.reduceSub, Int.reduceNeg, Nat.reduceAdd, Nat.reduceMul, Nat.reduceSub, Nat.reduceEqDiff, Nat.reduceLT, Nat.reduceLeDiff, cellsW, e1, e2, e4, e3])
        | fail)
      all_goals first
        | (have q : ¬ k = 8 := by omega
           rw [if_neg q, decide_eq_false q]; exact ⟨rfl, rfl⟩)
        | (have q : k = 8 := by omega
           rw [if_pos q, decide_eq_true q]; exact ⟨rfl, rfl⟩)
        | (have q : ¬ k = 8 := by omega
           have q2 := hb.resolve_left q
           have q3 := part_iff.2 ⟨u32'.1 (by assumption), h⟩
           rw [q3] at q2; exact absurd q2 (by decide))
        | trace_state
def zW : List PV := [.v (.int .u64 0), .v (.int .u64 0), .v (.int .u64 0), .v (.int .u64 0), .v (.int .u64 0), .v (.int .u64 0), .v (.int .u64 0), .v (.int .u64 0)]
/-- What parseLine finds: a numeral before the first colon, 136 bytes behind it. -/
def lnS (t : List UInt8) : Option (Nat × List UInt8) := match Lib.cut t [58] with
  | (hd, r, true) => if numOk 4096 hd = true ∧ r.length = 136 then some (valA 0 hd, r) else none
  | _ => none
theorem cut_spec (x : UInt8) (t : List UInt8) : (x ∉ t ∧ Lib.cut t [x] = (t, [], false)) ∨ ∃ a b, t = a ++ x :: b ∧ x ∉ a ∧ Lib.cut t [x] = (a, b, true) := by
  by_cases h : x ∈ t
  · obtain ⟨a, b, rfl, hx⟩ := List.eq_append_cons_of_mem h
    exact .inr ⟨a, b, rfl, hx, cut_hit x a b hx⟩
  · exact .inl ⟨h, cut_miss x t h⟩
set_option maxRecDepth 100000 in
set_option maxHeartbeats 4000000 in
theorem c66n1 (t : List UInt8) (hl : t.length ≤ 1000000) (hx : (58 : UInt8) ∉ t) : PCalls Tryd.prog 66 [.v (.string (bs t))] (.tup [.v (.int .i64 0), .agg zW, .v (.bool false)]) := by
  refine pcalls_of (E := E) (fn := Tryd.f66) 68 [.tmp 2, .cell 3 115, .tmp 4] rfl rfl rfl rfl (by decide) rfl ?_
  have k63 := c63m t 58 hx (by omega)
  have k65 := c65 t 4096 (by omega) (by decide)
  repeat' (first
    | (with_reducible first | refine r_seq ?_ | refine r_block ?_ | refine fork_not ?_ | refine fork_and ?_ | refine fork_or ?_ | refine chk_ok (by kernel_rfl) ?_)
    | ((with_reducible first | refine fork_dec ?_ ?_ | refine fork_eq ?_ ?_ | refine fork_ne ?_ ?_ | refine fork_intro ?_ ?_) <;> intro h <;> try (exfalso; first | omega | exact h rfl | (revert h; decide) | (cases h; done)))
    | ((with_reducible show False); omega)
    | ((first | (with_reducible first | refine r_exit ?_ | refine r_skip ?_ | refine r_cond ?_ | refine r_region ?_ | show VX _ _ _ _ _ _ _ | show vstep _ _ _ _ _ | show vskip _ _ _ | show withV _ _) | ((with_reducible show endA _ _ _ _ _ _ _); simp -implicitDefEqProofs only [endA])); simp -dsimp -implicitDefEqProofs (maxSteps := 1000000) (disch := first | omega | (simp only [LN, zW]; omega)) only [go_sem, Int.reduceToNat, Int.reducePow, Nat.reducePow, Int.reduceAdd, Int.reduceMul, Int.reduceSub, Int.reduceNeg, Nat.reduceAdd, Nat.reduceMul, Nat.reduceSub, Nat.reduceEqDiff, Nat.reduceLT, Nat.reduceLeDiff, zW])
    | ((first | (with_reducible refine r_ret ?_) | (with_reducible refine pick_viewG default (by first | omega | (simp only [LN, zW]; omega)) (by first | omega | (simp only [LN, zW]; omega)) ?_) | (with_reducible refine pick_own default (by first | omega | (simp only [LN, zW]; omega)) ?_) | (with_reducible refine And.intro (by first | decide | omega | assumption | (simp only [LN, zW]; omega)) ?_) | ((with_reducible apply callK_pure); (first | exact k63 | exact k65 | fail)) | ((with_reducible apply callF_lend); (first | exact k63 | exact k65 | fail); rfl) | ((with_reducible apply callF_go); (first | exact k63 | exact k65 | fail)) | ((with_reducible show pickE _ _ _); first | refine pickE_intro _ ⟨by omega, by rfl⟩ ?_ | refine pickE_intro _ (by rfl) ?_) | fail); try simp -dsimp -implicitDefEqProofs (maxSteps := 1000000) (disch := first | omega | (simp only [LN, zW]; omega)) only [go_sem, Int.reduceToNat, Int.reducePow, Nat.reducePow, Int.reduceAdd, Int.reduceMul, Int.reduceSub, Int.reduceNeg, Nat.reduceAdd, Nat.reduceMul, Nat.reduceSub, Nat.reduceEqDiff, Nat.reduceLT, Nat.reduceLeDiff, zW])
    | fail)
  all_goals trace_state
set_option maxRecDepth 100000 in
set_option maxHeartbeats 4000000 in
theorem c66n2 (hd r : List UInt8) (hl : hd.length + r.length ≤ 1000000) (hx : (58 : UInt8) ∉ hd) (hn : ¬ (numOk 4096 hd = true ∧ r.length = 136)) : PCalls Tryd.prog 66 [.v (.string (bs (hd ++ 58 :: r)))] (.tup [.v (.int .i64 0), .agg zW, .v (.bool false)]) := by
  refine pcalls_of (E := E) (fn := Tryd.f66) 68 [.tmp 2, .cell 3 115, .tmp 4] rfl rfl rfl rfl (by decide) rfl ?_
  have k63 := c63h hd r 58 hx (by omega)
  have k65 := c65 hd 4096 (by omega) (by decide)
  by_cases h1 : numOk 4096 hd = true
  · have h2 : ¬ r.length = 136 := fun h2 => hn ⟨h1, h2⟩
    rw [h1] at k65
    repeat' (first
      | (with_reducible first | refine r_seq ?_ | refine r_block ?_ | refine fork_not ?_ | refine fork_and ?_ | refine fork_or ?_ | refine chk_ok (by kernel_rfl) ?_)
      | ((with_reducible first | refine fork_dec ?_ ?_ | refine fork_eq ?_ ?_ | refine fork_ne ?_ ?_ | refine fork_intro ?_ ?_) <;> intro h <;> try (exfalso; first | omega | exact h rfl | (revert h; decide) | (cases h; done)))
      | ((with_reducible show False); omega)
      | ((first | (with_reducible first | refine r_exit ?_ | refine r_skip ?_ | refine r_cond ?_ | refine r_region ?_ | show VX _ _ _ _ _ _ _ | show vstep _ _ _ _ _ | show vskip _ _ _ | show withV _ _) | ((with_reducible show endA _ _ _ _ _ _ _); simp -implicitDefEqProofs only [endA])); simp -dsimp -implicitDefEqProofs (maxSteps := 1000000) (disch := first | omega | (simp only [LN, zW]; omega)) only [go_sem, Int.reduceToNat, Int.reducePow, Nat.reducePow, Int.reduceAdd, Int.reduceMul, Int.reduceSub, Int.reduceNeg, Nat.reduceAdd, Nat.reduceMul, Nat.reduceSub, Nat.reduceEqDiff, Nat.reduceLT, Nat.reduceLeDiff, zW])
      | ((first | (with_reducible refine r_ret ?_) | (with_reducible refine pick_viewG default (by first | omega | (simp only [LN, zW]; omega)) (by first | omega | (simp only [LN, zW]; omega)) ?_) | (with_reducible refine pick_own default (by first | omega | (simp only [LN, zW]; omega)) ?_) | (with_reducible refine And.intro (by first | decide | omega | assumption | (simp only [LN, zW]; omega)) ?_) | ((with_reducible apply callK_pure); (first | exact k63 | exact k65 | fail)) | ((with_reducible apply callF_lend); (first | exact k63 | exact k65 | fail); rfl) | ((with_reducible apply callF_go); (first | exact k63 | exact k65 | fail)) | ((with_reducible show pickE _ _ _); first | refine pickE_intro _ ⟨by omega, by rfl⟩ ?_ | refine pickE_intro _ (by rfl) ?_) | fail); try simp -dsimp -implicitDefEqProofs (maxSteps := 1000000) (disch := first | omega | (simp only [LN, zW]; omega)) only [go_sem, Int.reduceToNat, Int.reducePow, Nat.reducePow, Int.reduceAdd, Int.reduceMul, Int.reduceSub, Int.reduceNeg, Nat.reduceAdd, Nat.reduceMul, Nat.reduceSub, Nat.reduceEqDiff, Nat.reduceLT, Nat.reduceLeDiff, zW])
      | fail)
    all_goals trace_state
  · rw [Bool.eq_false_iff.2 h1] at k65
    repeat' (first
      | (with_reducible first | refine r_seq ?_ | refine r_block ?_ | refine fork_not ?_ | refine fork_and ?_ | refine fork_or ?_ | refine chk_ok (by kernel_rfl) ?_)
      | ((with_reducible first | refine fork_dec ?_ ?_ | refine fork_eq ?_ ?_ | refine fork_ne ?_ ?_ | refine fork_intro ?_ ?_) <;> intro h <;> try (exfalso; first | omega | exact h rfl | (revert h; decide) | (cases h; done)))
      | ((with_reducible show False); omega)
      | ((first | (with_reducible first | refine r_exit ?_ | refine r_skip ?_ | refine r_cond ?_ | refine r_region ?_ | show VX _ _ _ _ _ _ _ | show vstep _ _ _ _ _ | show vskip _ _ _ | show withV _ _) | ((with_reducible show endA _ _ _ _ _ _ _); simp -implicitDefEqProofs only [endA])); simp -dsimp -implicitDefEqProofs (maxSteps := 1000000) (disch := first | omega | (simp only [LN, zW]; omega)) only [go_sem, Int.reduceToNat, Int.reducePow, Nat.reducePow, Int.reduceAdd, Int.reduceMul, Int.reduceSub, Int.reduceNeg, Nat.reduceAdd, Nat.reduceMul, Nat.reduceSub, Nat.reduceEqDiff, Nat.reduceLT, Nat.reduceLeDiff, zW])
      | ((first | (with_reducible refine r_ret ?_) | (with_reducible refine pick_viewG default (by first | omega | (simp only [LN, zW]; omega)) (by first | omega | (simp only [LN, zW]; omega)) ?_) | (with_reducible refine pick_own default (by first | omega | (simp only [LN, zW]; omega)) ?_) | (with_reducible refine And.intro (by first | decide | omega | assumption | (simp only [LN, zW]; omega)) ?_) | ((with_reducible apply callK_pure); (first | exact k63 | exact k65 | fail)) | ((with_reducible apply callF_lend); (first | exact k63 | exact k65 | fail); rfl) | ((with_reducible apply callF_go); (first | exact k63 | exact k65 | fail)) | ((with_reducible show pickE _ _ _); first | refine pickE_intro _ ⟨by omega, by rfl⟩ ?_ | refine pickE_intro _ (by rfl) ?_) | fail); try simp -dsimp -implicitDefEqProofs (maxSteps := 1000000) (disch := first | omega | (simp only [LN, zW]; omega)) only [go_sem, Int.reduceToNat, Int.reducePow, Nat.reducePow, Int.reduceAdd, Int.reduceMul, Int.reduceSub, Int.reduceNeg, Nat.reduceAdd, Nat.reduceMul, Nat.reduceSub, Nat.reduceEqDiff, Nat.reduceLT, Nat.reduceLeDiff, zW])
      | fail)
    all_goals trace_state
end Go.Proofs.YtcnbngflehiphaaDoor
