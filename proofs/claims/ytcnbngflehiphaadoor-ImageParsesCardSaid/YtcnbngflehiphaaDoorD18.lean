/- Contracts of functions of this program, and the plain facts that they rest on. No conditions. -/
import Derived.Test.YtcnbngflehiphaaDoorD17
set_option linter.unusedSimpArgs false
set_option linter.unusedVariables false
namespace Go.Proofs.YtcnbngflehiphaaDoor
open Go Go.Ab
attribute [local irreducible] callK callF loopQ vstep vskip pickE hideP
open Go.RowKit
attribute [local go_sem] eI byteAt_bs app_bs
set_option maxRecDepth 100000
/-! A text. -/
def allOk (r : List UInt8) : Bool := (List.range 8).all (partOk r)
def anyN (r : List UInt8) : Bool := (List.range 8).any (fun k => decide (partV r k ≠ 0))
theorem allOk_iff {r : List UInt8} : allOk r = true ↔ ∀ k, k < 8 → partOk r k = true := by simp [allOk]
theorem anyN_iff {r : List UInt8} : anyN r = true ↔ ∃ k, k < 8 ∧ partV r k ≠ 0 := by simp [anyN]
def goodL (lines : Nat) (prev : Int) (t : List UInt8) : Option (Nat × List UInt8) := match lnS t with
  | some (n, r) => if allOk r = true ∧ n < lines ∧ prev < n ∧ anyN r = true then some (n, r) else none
  | none => none
def putR (p : List UInt8) (n : Nat) (r : List UInt8) : Nat → List UInt8
  | 0 => p
  | k + 1 => putM (putR p n r k) (n * 64 + k * 8) (partV r k) 8
def parF (lines : Nat) : Nat → List UInt8 → List UInt8 → Int → Nat → List UInt8 × Nat × Nat
  | 0, _, p, _, at' => (p, 0, 0)
  | f + 1, rest, p, prev, at' => if rest = [] then (p, 0, 0) else match Lib.cut rest [10] with
    | (t, after, true) => match goodL lines prev t with
      | some (n, r) => parF lines f after (putR p n r 8) n (at' + 1)
      | none => ([], at', 11)
    | _ => ([], at', 11)
def headS : List UInt8 := [108, 105, 110, 101, 115, 32]
def headN (first : List UInt8) : Option Nat := if Lib.hasPrefix first headS = true ∧ numOk 4096 (Lib.trimPrefix first headS) = true then some (valA 0 (Lib.trimPrefix first headS)) else none
def parM (s : List UInt8) : List UInt8 × Nat × Nat := match Lib.cut s [10] with
  | (first, rest, true) => match headN first with
    | some n => parF n (rest.length + 1) rest (zerosM (64 * n)) (-1) 2
    | none => ([], 1, 11)
  | _ => ([], 1, 11)
theorem putR_len (p : List UInt8) (n : Nat) (r : List UInt8) : ∀ k, (putR p n r k).length = p.length
  | 0 => rfl
  | k + 1 => by rw [putR, putM_len, putR_len p n r k]
theorem lnS_lt {t : List UInt8} {n : Nat} {r : List UInt8} (h : lnS t = some (n, r)) : n ≤ 4096 ∧ r.length = 136 := by
  unfold lnS at h
  split at h
  · split at h
    · rename_i hh
      simp only [Option.some.injEq, Prod.mk.injEq] at h
      obtain ⟨rfl, rfl⟩ := h
      exact ⟨(numOk_inv hh.1).2, hh.2⟩
    · cases h
  · cases h
/-- What parseLine gives, whatever the line. -/
theorem c66 (t : List UInt8) (hl : t.length ≤ 1000000) : (∃ n r, lnS t = some (n, r) ∧ allOk r = true ∧ PCalls Tryd.prog 66 [.v (.string (bs t))] (.tup [.v (.int .i64 (n : Nat)), .agg (cellsW r 8), .v (.bool true)]))
    ∨ ((∀ n r, lnS t = some (n, r) → allOk r = false) ∧ ∃ r m, PCalls Tryd.prog 66 [.v (.string (bs t))] (.tup [.v (.int .i64 0), .agg (cellsW r m), .v (.bool false)])) := by
  rcases cut_spec 58 t with ⟨hx, hc⟩ | ⟨hd, r, rfl, hx, hc⟩
  · refine .inr ⟨fun n r h => (by unfold lnS at h; rw [hc] at h; cases h), [], 0, c66n1 t hl hx⟩
  · have hl2 : hd.length + r.length ≤ 1000000 := by simp at hl; omega
    by_cases h1 : numOk 4096 hd = true ∧ r.length = 136
    · have hs : lnS (hd ++ 58 :: r) = some (valA 0 hd, r) := by unfold lnS; rw [hc]; exact if_pos h1
      have key : ∀ n, n ≤ 8 → (∀ k, k < n → partOk r k = true) ∨ ∃ m, m < n ∧ (∀ k, k < m → partOk r k = true) ∧ partOk r m = false := by
        intro n
        induction n with
        | zero => exact fun _ => .inl fun k hk => absurd hk (by omega)
        | succ n ih =>
          intro hn
          rcases ih (by omega) with h | ⟨m, g1, g2, g3⟩
          · cases hp : partOk r n with
            | false => exact .inr ⟨n, by omega, h, hp⟩
            | true => refine .inl fun k hk => ?_
                      rcases Nat.lt_or_ge k n with h4 | h4
                      · exact h k h4
                      · obtain rfl : k = n := by omega
                        exact hp
          · exact .inr ⟨m, by omega, g2, g3⟩
      rcases key 8 (Nat.le_refl _) with h | ⟨m, g1, g2, g3⟩
      · exact .inl ⟨_, _, hs, allOk_iff.2 h, c66m hd r 8 (by omega) h1.1 h1.2 hx (Nat.le_refl _) h (.inl rfl)⟩
      · refine .inr ⟨fun n r' h => ?_, r, m, ?_⟩
        · rw [hs] at h
          simp only [Option.some.injEq, Prod.mk.injEq] at h
          obtain ⟨rfl, rfl⟩ := h
          rw [Bool.eq_false_iff]; intro h4
          rw [allOk_iff.1 h4 m g1] at g3; cases g3
        · have := c66m hd r m (by omega) h1.1 h1.2 hx (by omega) g2 (.inr g3)
          rw [if_neg (by omega), decide_eq_false (by omega)] at this
          exact this
    · refine .inr ⟨fun n r' h => (by unfold lnS at h; rw [hc] at h; simp only [if_neg h1] at h; cases h), [], 0, c66n2 hd r hl2 hx h1⟩
theorem trim_len (s p : List UInt8) : (Lib.trimPrefix s p).length ≤ s.length := by
  unfold Lib.trimPrefix; split <;> simp
theorem parF_nil {lines f : Nat} {p : List UInt8} {prev : Int} {at' : Nat} : parF lines f [] p prev at' = (p, 0, 0) := by
  cases f with
  | zero => rfl
  | succ f => rw [parF, if_pos rfl]
theorem parF_cons {lines f : Nat} {rest p : List UInt8} {prev : Int} {at' : Nat} (h : rest ≠ []) : parF lines (f + 1) rest p prev at' = match Lib.cut rest [10] with
    | (t, after, true) => match goodL lines prev t with
      | some (n, r) => parF lines f after (putR p n r 8) n (at' + 1)
      | none => ([], at', 11)
    | _ => ([], at', 11) := by rw [parF, if_neg h]
theorem map_zeros8 (m : Nat) : (zerosM m).map eB = List.replicate m (.v (.int .u8 0)) := by
  rw [zerosM, List.map_replicate]; rfl
theorem goodL_no {lines : Nat} {prev : Int} {t : List UInt8} (h : ∀ n r, lnS t = some (n, r) → ¬ (allOk r = true ∧ n < lines ∧ prev < n ∧ anyN r = true)) : goodL lines prev t = none := by
  unfold goodL
  cases e : lnS t with
  | none => rfl
  | some x => obtain ⟨n, r⟩ := x
              exact if_neg (h n r e)
theorem goodL_yes {lines : Nat} {prev : Int} {t : List UInt8} {n : Nat} {r : List UInt8} (e : lnS t = some (n, r)) (h : allOk r = true ∧ n < lines ∧ prev < n ∧ anyN r = true) : goodL lines prev t = some (n, r) := by
  unfold goodL; rw [e]; exact if_pos h
theorem cells8 (r : List UInt8) : cellsW r 8 = [.v (.int .u64 (partV r 0 : Int)), .v (.int .u64 (partV r 1 : Int)), .v (.int .u64 (partV r 2 : Int)), .v (.int .u64 (partV r 3 : Int)), .v (.int .u64 (partV r 4 : Int)), .v (.int .u64 (partV r 5 : Int)), .v (.int .u64 (partV r 6 : Int)), .v (.int .u64 (partV r 7 : Int))] := rfl
theorem nz_b (x : Nat) : ((x : Int) == 0) = decide (x = 0) := by
  by_cases h : x = 0
  · subst h; rfl
  · rw [decide_eq_false h]; simpa using h
theorem eqz (r : List UInt8) : (((partV r 0 : Nat) : Int) == 0 && (((partV r 1 : Nat) : Int) == 0 && (((partV r 2 : Nat) : Int) == 0 && (((partV r 3 : Nat) : Int) == 0 && (((partV r 4 : Nat) : Int) == 0 && (((partV r 5 : Nat) : Int) == 0 && (((partV r 6 : Nat) : Int) == 0 && ((partV r 7 : Nat) : Int) == 0))))))) = !anyN r := by
  cases h : anyN r with
  | true =>
    obtain ⟨k, hk, hv⟩ := anyN_iff.1 h
    simp only [nz_b, Bool.not_true]
    rw [Bool.eq_false_iff]
    intro h2
    simp only [Bool.and_eq_true, decide_eq_true_iff] at h2
    rcases eight hk with rfl | rfl | rfl | rfl | rfl | rfl | rfl | rfl <;> omega
  | false =>
    have : ∀ k, k < 8 → partV r k = 0 := fun k hk => Classical.byContradiction fun hv => by
      rw [anyN_iff.2 ⟨k, hk, hv⟩] at h; cases h
    simp only [this 0 (by decide), this 1 (by decide), this 2 (by decide), this 3 (by decide), this 4 (by decide), this 5 (by decide), this 6 (by decide), this 7 (by decide)]
    rfl
theorem vEq115 (r : List UInt8) (K : AV → Prop) (h : K (.p (.v (.bool (!anyN r))))) : vEq E false 115 (.p (.agg [.v (.int .u64 (partV r 0 : Int)), .v (.int .u64 (partV r 1 : Int)), .v (.int .u64 (partV r 2 : Int)), .v (.int .u64 (partV r 3 : Int)), .v (.int .u64 (partV r 4 : Int)), .v (.int .u64 (partV r 5 : Int)), .v (.int .u64 (partV r 6 : Int)), .v (.int .u64 (partV r 7 : Int))])) (.p (.agg [.v (.int .u64 0), .v (.int .u64 0), .v (.int .u64 0), .v (.int .u64 0), .v (.int .u64 0), .v (.int .u64 0), .v (.int .u64 0), .v (.int .u64 0)])) K := by
  have e := eqz r
  simp -dsimp -implicitDefEqProofs only [go_sem, Nat.reduceAdd, Nat.reduceMul, Nat.reduceSub, Nat.reduceEqDiff, Nat.reduceLT, Nat.reduceLeDiff, e]
  exact h
theorem nth8 (r : List UInt8) (k : Nat) (h : k < 8) : nth [AV.p (.v (.int .u64 (partV r 0 : Int))), AV.p (.v (.int .u64 (partV r 1 : Int))), AV.p (.v (.int .u64 (partV r 2 : Int))), AV.p (.v (.int .u64 (partV r 3 : Int))), AV.p (.v (.int .u64 (partV r 4 : Int))), AV.p (.v (.int .u64 (partV r 5 : Int))), AV.p (.v (.int .u64 (partV r 6 : Int))), AV.p (.v (.int .u64 (partV r 7 : Int)))] k = some (.p (.v (.int .u64 (partV r k : Int)))) := by
  rcases eight h with rfl | rfl | rfl | rfl | rfl | rfl | rfl | rfl <;> rfl
theorem putR_0 (p : List UInt8) (n : Nat) (r : List UInt8) : putR p n r 0 = p := rfl
theorem putR_s (p : List UInt8) (n : Nat) (r : List UInt8) (k : Nat) : putR p n r (k + 1) = putM (putR p n r k) (n * 64 + k * 8) (partV r k) 8 := rfl
theorem partV_lt (r : List UInt8) (k : Nat) : partV r k < 18446744073709551616 := by
  unfold partV hxV; split
  · rename_i h
    unfold hxOk at h; rw [Bool.and_eq_true, decide_eq_true_iff, List.all_eq_true] at h
    have := hxA_lt _ 0 h.2
    rw [h.1] at this
    simpa using this
  · decide
attribute [-go_sem] vEq
attribute [local irreducible] parF putR putM
set_option maxRecDepth 100000 in
set_option maxHeartbeats 4000000 in
theorem c40 (s : List UInt8) (hl : s.length ≤ 400000) : PCalls Tryd.prog 40 [.v (.string (bs s))] (.tup [eI (parM s).1, .v (.int .i64 (parM s).2.1), .v (.int .i64 (parM s).2.2)]) := by
  refine pcalls_of (E := E) (fn := Tryd.f40) 111 [.cell 2 25, .tmp 3, .tmp 4] rfl rfl rfl rfl (by decide) rfl ?_
  have hP : bs headS = ⟨#[108, 105, 110, 101, 115, 32]⟩ := rfl
  rcases cut_spec 10 s with ⟨hx, hc⟩ | ⟨first, rest, rfl, hx, hc⟩
  · have e : parM s = ([], 1, 11) := by unfold parM; rw [hc]
    have k63 := c63m s 10 hx (by omega)
    have k64 := c64 s headS
    have k65 := c65 (Lib.trimPrefix s headS) 4096 (by have := trim_len s headS; omega) (by decide)
    rw [e]
    repeat' (first
      | (with_reducible first | refine r_seq ?_ | refine r_block ?_ | refine fork_not ?_ | refine fork_and ?_ | refine fork_or ?_ | refine chk_ok (by kernel_rfl) ?_)
      | ((with_reducible first | refine fork_dec ?_ ?_ | refine fork_eq ?_ ?_ | refine fork_ne ?_ ?_ | refine fork_intro ?_ ?_) <;> intro h <;> try (exfalso; first | omega | exact h rfl | (revert h; decide) | (cases h; done)))
      | ((with_reducible show False); omega)
      | ((first | (with_reducible first | refine r_exit ?_ | refine r_skip ?_ | refine r_cond ?_ | refine r_region ?_ | show VX _ _ _ _ _ _ _ | show vstep _ _ _ _ _ | show vskip _ _ _ | show withV _ _) | ((with_reducible show endA _ _ _ _ _ _ _); simp -implicitDefEqProofs only [endA])); simp -dsimp -implicitDefEqProofs (maxSteps := 1000000) (disch := first | omega | (simp only [LN]; omega)) only [go_sem, Int.reduceToNat, Int.reducePow, Nat.reducePow, Int.reduceAdd, Int.reduceMul, Int.reduceSub, Int.reduceNeg, Nat.reduceAdd, Nat.reduceMul, Nat.reduceSub, Nat.reduceEqDiff, Nat.reduceLT, Nat.reduceLeDiff])
      | ((first | (with_reducible refine r_ret ?_) | (with_reducible refine pick_viewG default (by first | omega | (simp only [LN]; omega)) (by first | omega | (simp only [LN]; omega)) ?_) | (with_reducible refine pick_own default (by first | omega | (simp only [LN]; omega)) ?_) | (with_reducible refine And.intro (by first | decide | omega | assumption | (simp only [LN]; omega)) ?_) | ((with_reducible apply callK_pure); (first | exact k63 | exact k64 | exact k65 | fail)) | ((with_reducible apply callF_lend); (first | exact k63 | exact k64 | exact k65 | fail); rfl) | ((with_reducible apply callF_go); (first | exact k63 | exact k64 | exact k65 | fail)) | ((with_reducible show pickE _ _ _); first | refine pickE_intro _ ⟨by omega, by rfl⟩ ?_ | refine pickE_intro _ (by rfl) ?_) | fail); try simp -dsimp -implicitDefEqProofs (maxSteps := 1000000) (disch := first | omega | (simp only [LN]; omega)) only [go_sem, Int.reduceToNat, Int.reducePow, Nat.reducePow, Int.reduceAdd, Int.reduceMul, Int.reduceSub, Int.reduceNeg, Nat.reduceAdd, Nat.reduceMul, Nat.reduceSub, Nat.reduceEqDiff, Nat.reduceLT, Nat.reduceLeDiff])
      | fail)
  · have k63 := c63h first rest 10 hx (by simp at hl; omega)
    have k64 := c64 first headS
    have k65 := c65 (Lib.trimPrefix first headS) 4096 (by have := trim_len first headS; rw [List.length_append, List.length_cons] at hl; omega) (by decide)
    by_cases hh : Lib.hasPrefix first headS = true ∧ numOk 4096 (Lib.trimPrefix first headS) = true
    · have e : parM (first ++ 10 :: rest) = parF (valA 0 (Lib.trimPrefix first headS)) (rest.length + 1) rest (zerosM (64 * (valA 0 (Lib.trimPrefix first headS)))) (-1) 2 := by unfold parM headN; rw [hc]; simp only [if_pos hh]
      rw [e]
      obtain ⟨R, hR⟩ : ∃ R, parF (valA 0 (Lib.trimPrefix first headS)) (rest.length + 1) rest (zerosM (64 * (valA 0 (Lib.trimPrefix first headS)))) (-1) 2 = R := ⟨_, rfl⟩
      rw [hR]
      have hv := (numOk_inv hh.2).2
      rw [numV, if_pos hh.2, hh.2] at k65
      rw [hh.1] at k64
      generalize valA 0 (Lib.trimPrefix first headS) = lines at *
      have hr : rest.length ≤ 400000 := by simp at hl; omega
      have e8 : ((lines : Int) * 64).toNat = 64 * lines := by omega
      repeat' (first
        | (with_reducible first | refine r_seq ?_ | refine r_block ?_ | refine fork_not ?_ | refine fork_and ?_ | refine fork_or ?_ | refine chk_ok (by kernel_rfl) ?_)
        | ((with_reducible first | refine fork_dec ?_ ?_ | refine fork_eq ?_ ?_ | refine fork_ne ?_ ?_ | refine fork_intro ?_ ?_) <;> intro h <;> try (exfalso; first | omega | exact h rfl | (revert h; decide) | (cases h; done)))
        | ((with_reducible show False); omega)
        | ((first | (with_reducible first | refine r_exit ?_ | refine r_skip ?_ | refine r_cond ?_ | refine r_region ?_ | show VX _ _ _ _ _ _ _ | show vstep _ _ _ _ _ | show vskip _ _ _ | show withV _ _) | ((with_reducible show endA _ _ _ _ _ _ _); simp -implicitDefEqProofs only [endA])); simp -dsimp -implicitDefEqProofs (maxSteps := 1000000) (disch := first | omega | (simp only [LN]; omega)) only [go_sem, Int.reduceToNat, Int.reducePow, Nat.reducePow, Int.reduceAdd, Int.reduceMul, Int.reduceSub, Int.reduceNeg, Nat.reduceAdd, Nat.reduceMul, Nat.reduceSub, Nat.reduceEqDiff, Nat.reduceLT, Nat.reduceLeDiff])
        | ((first | (with_reducible refine r_ret ?_) | (with_reducible refine pick_viewG default (by first | omega | (simp only [LN]; omega)) (by first | omega | (simp only [LN]; omega)) ?_) | (with_reducible refine pick_own default (by first | omega | (simp only [LN]; omega)) ?_) | (with_reducible refine And.intro (by first | decide | omega | assumption | (simp only [LN]; omega)) ?_) | ((with_reducible apply callK_pure); (first | exact k63 | exact k64 | exact k65 | fail)) | ((with_reducible apply callF_lend); (first | exact k63 | exact k64 | exact k65 | fail); rfl) | ((with_reducible apply callF_go); (first | exact k63 | exact k64 | exact k65 | fail)) | ((with_reducible show pickE _ _ _); first | refine pickE_intro _ ⟨by omega, by rfl⟩ ?_ | refine pickE_intro _ (by rfl) ?_) | fail); try simp -dsimp -implicitDefEqProofs (maxSteps := 1000000) (disch := first | omega | (simp only [LN]; omega)) only [go_sem, Int.reduceToNat, Int.reducePow, Nat.reducePow, Int.reduceAdd, Int.reduceMul, Int.reduceSub, Int.reduceNeg, Nat.reduceAdd, Nat.reduceMul, Nat.reduceSub, Nat.reduceEqDiff, Nat.reduceLT, Nat.reduceLeDiff])
        | fail)
      refine r_loopA (α := List UInt8 × List UInt8 × Int × Nat × Nat) [2, 10, 12] (fun x b => [(6, .p (.v (.string (bs x.1)))), (13, .p (.v (.int .i64 x.2.2.1))), (14, .p (.v (.int .i64 (x.2.2.2.1 : Nat))))]) (fun x b => [(12, .arr 1 (x.2.1.map eB))]) (fun x => []) (fun x => parF lines x.2.2.2.2 x.1 x.2.1 x.2.2.1 x.2.2.2.1 = R ∧ x.1.length < x.2.2.2.2 ∧ x.2.1.length = 64 * lines ∧ x.2.2.2.1 + x.1.length ≤ 400002 ∧ -1 ≤ x.2.2.1 ∧ x.2.2.1 ≤ 4096) (fun x => x.1.length) ((rest, zerosM (64 * lines), -1, 2, rest.length + 1)) ?h0_1 ?hs0_1 ?I_1 ?hI_1 ?round_1
      case hI_1 => intro x; (simp -dsimp -implicitDefEqProofs (maxSteps := 1000000) (disch := first | omega | (simp only [LN]; omega)) only [go_sem, Int.reduceToNat, Int.reducePow, Nat.reducePow, Int.reduceAdd, Int.reduceMul, Int.reduceSub, Int.reduceNeg, Nat.reduceAdd, Nat.reduceMul, Nat.reduceSub, Nat.reduceEqDiff, Nat.reduceLT, Nat.reduceLeDiff]) <;> exact rfl
      case hs0_1 => refine wk_auto ?_; (simp -dsimp -implicitDefEqProofs (maxSteps := 1000000) (disch := first | omega | (simp only [LN, e8, map_zeros8]; omega)) only [go_sem, Int.reduceToNat, Int.reducePow, Nat.reducePow, Int.reduceAdd, Int.reduceMul, Int.reduceSub, Int.reduceNeg, Nat.reduceAdd, Nat.reduceMul, Nat.reduceSub, Nat.reduceEqDiff, Nat.reduceLT, Nat.reduceLeDiff, e8, map_zeros8]) <;> (try omega)
      case h0_1 => exact ⟨hR, by dsimp only; omega, by simp [zerosM], by dsimp only; omega, by dsimp only; omega, by dsimp only; omega⟩
      case round_1 =>
        rintro ⟨rest, p, prev, at', f⟩ ⟨g1, g2, g3, g4, g5, g6⟩
        dsimp only at g1 g2 g3 g4 g5 g6
        by_cases hn : rest = []
        · subst hn
          rw [parF_nil] at g1
          subst g1
          repeat' (first
            | (with_reducible first | refine r_seq ?_ | refine r_block ?_ | refine fork_not ?_ | refine fork_and ?_ | refine fork_or ?_ | refine chk_ok (by kernel_rfl) ?_)
            | ((with_reducible first | refine fork_dec ?_ ?_ | refine fork_eq ?_ ?_ | refine fork_ne ?_ ?_ | refine fork_intro ?_ ?_) <;> intro h <;> try (exfalso; first | omega | exact h rfl | (revert h; decide) | (cases h; done)))
            | ((with_reducible show False); omega)
            | ((first | (with_reducible first | refine r_exit ?_ | refine r_skip ?_ | refine r_cond ?_ | refine r_region ?_ | show VX _ _ _ _ _ _ _ | show vstep _ _ _ _ _ | show vskip _ _ _ | show withV _ _) | ((with_reducible show endA _ _ _ _ _ _ _); simp -implicitDefEqProofs only [endA])); simp -dsimp -implicitDefEqProofs (maxSteps := 1000000) (disch := first | omega | (simp only [LN]; omega)) only [go_sem, Int.reduceToNat, Int.reducePow, Nat.reducePow, Int.reduceAdd, Int.reduceMul, Int.reduceSub, Int.reduceNeg, Nat.reduceAdd, Nat.reduceMul, Nat.reduceSub, Nat.reduceEqDiff, Nat.reduceLT, Nat.reduceLeDiff])
            | ((first | (with_reducible refine r_ret ?_) | (with_reducible refine pick_viewG default (by first | omega | (simp only [LN]; omega)) (by first | omega | (simp only [LN]; omega)) ?_) | (with_reducible refine pick_own default (by first | omega | (simp only [LN]; omega)) ?_) | (with_reducible refine And.intro (by first | decide | omega | assumption | (simp only [LN]; omega)) ?_) | ((with_reducible show pickE _ _ _); first | refine pickE_intro _ ⟨by omega, by rfl⟩ ?_ | refine pickE_intro _ (by rfl) ?_) | fail); try simp -dsimp -implicitDefEqProofs (maxSteps := 1000000) (disch := first | omega | (simp only [LN]; omega)) only [go_sem, Int.reduceToNat, Int.reducePow, Nat.reducePow, Int.reduceAdd, Int.reduceMul, Int.reduceSub, Int.reduceNeg, Nat.reduceAdd, Nat.reduceMul, Nat.reduceSub, Nat.reduceEqDiff, Nat.reduceLT, Nat.reduceLeDiff])
            | fail)
          all_goals trace_state
        · obtain ⟨f, rfl⟩ : ∃ f', f = f' + 1 := ⟨f - 1, by omega⟩
          rw [parF_cons hn] at g1
          rcases cut_spec 10 rest with ⟨gx, gc⟩ | ⟨t, after, rfl, gx, gc⟩
          · rw [gc] at g1
            dsimp only at g1
            subst g1
            have k63 := c63m rest 10 gx (by omega)
            rcases c66 rest (by omega) with ⟨n, r, _, _, k66⟩ | ⟨_, r, m, k66⟩
            · repeat' (first
                | (with_reducible first | refine r_seq ?_ | refine r_block ?_ | refine fork_not ?_ | refine fork_and ?_ | refine fork_or ?_ | refine chk_ok (by kernel_rfl) ?_)
                | ((with_reducible first | refine fork_dec ?_ ?_ | refine fork_eq ?_ ?_ | refine fork_ne ?_ ?_ | refine fork_intro ?_ ?_) <;> intro h <;> try (exfalso; first | omega | exact h rfl | (revert h; decide) | (cases h; done)))
                | ((with_reducible show False); omega)
                | ((first | (with_reducible first | refine r_exit ?_ | refine r_skip ?_ | refine r_cond ?_ | refine r_region ?_ | show VX _ _ _ _ _ _ _ | show vstep _ _ _ _ _ | show vskip _ _ _ | show withV _ _) | ((with_reducible show endA _ _ _ _ _ _ _); simp -implicitDefEqProofs only [endA])); simp -dsimp -implicitDefEqProofs (maxSteps := 1000000) (disch := first | omega | (simp only [LN, hn, decide_false, cellsW]; omega)) only [go_sem, Int.reduceToNat, Int.reducePow, Nat.reducePow, Int.reduceAdd, Int.reduceMul, Int.reduceSub, Int.reduceNeg, Nat.reduceAdd, Nat.reduceMul, Nat.reduceSub, Nat.reduceEqDiff, Nat.reduceLT, Nat.reduceLeDiff, hn, decide_false, cellsW])
                | ((first | (with_reducible refine r_ret ?_) | (with_reducible refine pick_viewG default (by first | omega | (simp only [LN, hn, decide_false, cellsW]; omega)) (by first | omega | (simp only [LN, hn, decide_false, cellsW]; omega)) ?_) | (with_reducible refine pick_own default (by first | omega | (simp only [LN, hn, decide_false, cellsW]; omega)) ?_) | (with_reducible refine And.intro (by first | decide | omega | assumption | (simp only [LN, hn, decide_false, cellsW]; omega)) ?_) | ((with_reducible apply callK_pure); (first | exact k63 | exact k66 | fail)) | ((with_reducible apply callF_lend); (first | exact k63 | exact k66 | fail); rfl) | ((with_reducible apply callF_go); (first | exact k63 | exact k66 | fail)) | ((with_reducible show pickE _ _ _); first | refine pickE_intro _ ⟨by omega, by rfl⟩ ?_ | refine pickE_intro _ (by rfl) ?_) | fail); try simp -dsimp -implicitDefEqProofs (maxSteps := 1000000) (disch := first | omega | (simp only [LN, hn, decide_false, cellsW]; omega)) only [go_sem, Int.reduceToNat, Int.reducePow, Nat.reducePow, Int.reduceAdd, Int.reduceMul, Int.reduceSub, Int.reduceNeg, Nat.reduceAdd, Nat.reduceMul, Nat.reduceSub, Nat.reduceEqDiff, Nat.reduceLT, Nat.reduceLeDiff, hn, decide_false, cellsW])
                | fail)
              all_goals trace_state
            · repeat' (first
                | (with_reducible first | refine r_seq ?_ | refine r_block ?_ | refine fork_not ?_ | refine fork_and ?_ | refine fork_or ?_ | refine chk_ok (by kernel_rfl) ?_)
                | ((with_reducible first | refine fork_dec ?_ ?_ | refine fork_eq ?_ ?_ | refine fork_ne ?_ ?_ | refine fork_intro ?_ ?_) <;> intro h <;> try (exfalso; first | omega | exact h rfl | (revert h; decide) | (cases h; done)))
                | ((with_reducible show False); omega)
                | ((first | (with_reducible first | refine r_exit ?_ | refine r_skip ?_ | refine r_cond ?_ | refine r_region ?_ | show VX _ _ _ _ _ _ _ | show vstep _ _ _ _ _ | show vskip _ _ _ | show withV _ _) | ((with_reducible show endA _ _ _ _ _ _ _); simp -implicitDefEqProofs only [endA])); simp -dsimp -implicitDefEqProofs (maxSteps := 1000000) (disch := first | omega | (simp only [LN, hn, decide_false, cellsW]; omega)) only [go_sem, Int.reduceToNat, Int.reducePow, Nat.reducePow, Int.reduceAdd, Int.reduceMul, Int.reduceSub, Int.reduceNeg, Nat.reduceAdd, Nat.reduceMul, Nat.reduceSub, Nat.reduceEqDiff, Nat.reduceLT, Nat.reduceLeDiff, hn, decide_false, cellsW])
                | ((first | (with_reducible refine r_ret ?_) | (with_reducible refine pick_viewG default (by first | omega | (simp only [LN, hn, decide_false, cellsW]; omega)) (by first | omega | (simp only [LN, hn, decide_false, cellsW]; omega)) ?_) | (with_reducible refine pick_own default (by first | omega | (simp only [LN, hn, decide_false, cellsW]; omega)) ?_) | (with_reducible refine And.intro (by first | decide | omega | assumption | (simp only [LN, hn, decide_false, cellsW]; omega)) ?_) | ((with_reducible apply callK_pure); (first | exact k63 | exact k66 | fail)) | ((with_reducible apply callF_lend); (first | exact k63 | exact k66 | fail); rfl) | ((with_reducible apply callF_go); (first | exact k63 | exact k66 | fail)) | ((with_reducible show pickE _ _ _); first | refine pickE_intro _ ⟨by omega, by rfl⟩ ?_ | refine pickE_intro _ (by rfl) ?_) | fail); try simp -dsimp -implicitDefEqProofs (maxSteps := 1000000) (disch := first | omega | (simp only [LN, hn, decide_false, cellsW]; omega)) only [go_sem, Int.reduceToNat, Int.reducePow, Nat.reducePow, Int.reduceAdd, Int.reduceMul, Int.reduceSub, Int.reduceNeg, Nat.reduceAdd, Nat.reduceMul, Nat.reduceSub, Nat.reduceEqDiff, Nat.reduceLT, Nat.reduceLeDiff, hn, decide_false, cellsW])
                | fail)
              all_goals trace_state
          · rw [gc] at g1
            dsimp only at g1
            have hl2 : t.length + after.length ≤ 400002 := by rw [List.length_append, List.length_cons] at g4; omega
            have k63 := c63h t after 10 gx (by omega)
            rcases c66 t (by omega) with ⟨n, r, q1, q2, k66⟩ | ⟨q1, r, m, k66⟩
            · by_cases hg : n < lines ∧ prev < n ∧ anyN r = true
              · rw [goodL_yes q1 ⟨q2, hg⟩] at g1
                dsimp only at g1
                rw [cells8] at k66
                repeat' (first
                  | (with_reducible first | refine r_seq ?_ | refine r_block ?_ | refine fork_not ?_ | refine fork_and ?_ | refine fork_or ?_ | refine chk_ok (by kernel_rfl) ?_)
                  | ((with_reducible first | refine fork_dec ?_ ?_ | refine fork_eq ?_ ?_ | refine fork_ne ?_ ?_ | refine fork_intro ?_ ?_) <;> intro h <;> try (exfalso; first | omega | exact h rfl | (revert h; decide) | (cases h; done)))
                  | ((with_reducible show False); omega)
                  | ((first | (with_reducible first | refine r_exit ?_ | refine r_skip ?_ | refine r_cond ?_ | refine r_region ?_ | show VX _ _ _ _ _ _ _ | show vstep _ _ _ _ _ | show vskip _ _ _ | show withV _ _) | ((with_reducible show endA _ _ _ _ _ _ _); simp -implicitDefEqProofs only [endA])); simp -dsimp -implicitDefEqProofs (maxSteps := 1000000) (disch := first | omega | (simp only [LN, hn, decide_false]; omega)) only [go_sem, Int.reduceToNat, Int.reducePow, Nat.reducePow, Int.reduceAdd, Int.reduceMul, Int.reduceSub, Int.reduceNeg, Nat.reduceAdd, Nat.reduceMul, Nat.reduceSub, Nat.reduceEqDiff, Nat.reduceLT, Nat.reduceLeDiff, hn, decide_false])
                  | ((first | (with_reducible refine r_ret ?_) | (with_reducible refine pick_viewG default (by first | omega | (simp only [LN, hn, decide_false]; omega)) (by first | omega | (simp only [LN, hn, decide_false]; omega)) ?_) | (with_reducible refine pick_own default (by first | omega | (simp only [LN, hn, decide_false]; omega)) ?_) | (with_reducible refine And.intro (by first | decide | omega | assumption | (simp only [LN, hn, decide_false]; omega)) ?_) | ((with_reducible apply callK_pure); (first | exact k63 | exact k66 | fail)) | ((with_reducible apply callF_lend); (first | exact k63 | exact k66 | fail); rfl) | ((with_reducible apply callF_go); (first | exact k63 | exact k66 | fail)) | ((with_reducible show pickE _ _ _); first | refine pickE_intro _ ⟨by omega, by rfl⟩ ?_ | refine pickE_intro _ (by rfl) ?_) | fail); try simp -dsimp -implicitDefEqProofs (maxSteps := 1000000) (disch := first | omega | (simp only [LN, hn, decide_false]; omega)) only [go_sem, Int.reduceToNat, Int.reducePow, Nat.reducePow, Int.reduceAdd, Int.reduceMul, Int.reduceSub, Int.reduceNeg, Nat.reduceAdd, Nat.reduceMul, Nat.reduceSub, Nat.reduceEqDiff, Nat.reduceLT, Nat.reduceLeDiff, hn, decide_false])
                  | fail)
                refine vEq115 r _ ?_
                rw [hg.2.2, Bool.not_true]
                repeat' (first
                  | (with_reducible first | refine r_seq ?_ | refine r_block ?_ | refine fork_not ?_ | refine fork_and ?_ | refine fork_or ?_ | refine chk_ok (by kernel_rfl) ?_)
                  | ((with_reducible first | refine fork_dec ?_ ?_ | refine fork_eq ?_ ?_ | refine fork_ne ?_ ?_ | refine fork_intro ?_ ?_) <;> intro h <;> try (exfalso; first | omega | exact h rfl | (revert h; decide) | (cases h; done)))
                  | ((with_reducible show False); omega)
                  | ((first | (with_reducible first | refine r_exit ?_ | refine r_skip ?_ | refine r_cond ?_ | refine r_region ?_ | show VX _ _ _ _ _ _ _ | show vstep _ _ _ _ _ | show vskip _ _ _ | show withV _ _) | ((with_reducible show endA _ _ _ _ _ _ _); simp -implicitDefEqProofs only [endA])); simp -dsimp -implicitDefEqProofs (maxSteps := 1000000) (disch := first | omega | (simp only [LN, hn, decide_false]; omega)) only [go_sem, Int.reduceToNat, Int.reducePow, Nat.reducePow, Int.reduceAdd, Int.reduceMul, Int.reduceSub, Int.reduceNeg, Nat.reduceAdd, Nat.reduceMul, Nat.reduceSub, Nat.reduceEqDiff, Nat.reduceLT, Nat.reduceLeDiff, hn, decide_false])
                  | ((first | (with_reducible refine r_ret ?_) | (with_reducible refine pick_viewG default (by first | omega | (simp only [LN, hn, decide_false]; omega)) (by first | omega | (simp only [LN, hn, decide_false]; omega)) ?_) | (with_reducible refine pick_own default (by first | omega | (simp only [LN, hn, decide_false]; omega)) ?_) | (with_reducible refine And.intro (by first | decide | omega | assumption | (simp only [LN, hn, decide_false]; omega)) ?_) | ((with_reducible show pickE _ _ _); first | refine pickE_intro _ ⟨by omega, by rfl⟩ ?_ | refine pickE_intro _ (by rfl) ?_) | fail); try simp -dsimp -implicitDefEqProofs (maxSteps := 1000000) (disch := first | omega | (simp only [LN, hn, decide_false]; omega)) only [go_sem, Int.reduceToNat, Int.reducePow, Nat.reducePow, Int.reduceAdd, Int.reduceMul, Int.reduceSub, Int.reduceNeg, Nat.reduceAdd, Nat.reduceMul, Nat.reduceSub, Nat.reduceEqDiff, Nat.reduceLT, Nat.reduceLeDiff, hn, decide_false])
                  | fail)
                refine r_loopA (α := Nat) [2, 10, 12, 14, 16, 18, 92] (fun k b => [(93, aI k)]) (fun k b => [(12, .arr 1 ((putR p n r k).map eB))]) (fun k => []) (fun k => k ≤ 8) (fun k => 8 - k) (0) ?h0_2 ?hs0_2 ?I_2 ?hI_2 ?round_2
                case hI_2 => intro x; (simp -dsimp -implicitDefEqProofs (maxSteps := 1000000) (disch := first | omega | (simp only [LN]; omega)) only [go_sem, Int.reduceToNat, Int.reducePow, Nat.reducePow, Int.reduceAdd, Int.reduceMul, Int.reduceSub, Int.reduceNeg, Nat.reduceAdd, Nat.reduceMul, Nat.reduceSub, Nat.reduceEqDiff, Nat.reduceLT, Nat.reduceLeDiff]) <;> exact rfl
                case hs0_2 => refine wk_auto ?_; (simp -dsimp -implicitDefEqProofs (maxSteps := 1000000) (disch := first | omega | (simp only [LN, putR_0]; omega)) only [go_sem, Int.reduceToNat, Int.reducePow, Nat.reducePow, Int.reduceAdd, Int.reduceMul, Int.reduceSub, Int.reduceNeg, Nat.reduceAdd, Nat.reduceMul, Nat.reduceSub, Nat.reduceEqDiff, Nat.reduceLT, Nat.reduceLeDiff, putR_0]) <;> (try omega)
                case h0_2 => exact Nat.zero_le _
                case round_2 =>
                  intro k hk
                  have hpl := putR_len p n r k
                  have hv1 := partV_lt r k
                  by_cases hk8 : k < 8
                  · have n8' := nth8 r k hk8
                    have k52 := c52 (putR p n r k) (n * 64 + k * 8) (partV r k) (by omega) (by omega) (by omega)
                    rw [hpl, g3] at k52
                    repeat' (first
                      | (with_reducible first | refine r_seq ?_ | refine r_block ?_ | refine fork_not ?_ | refine fork_and ?_ | refine fork_or ?_ | refine chk_ok (by kernel_rfl) ?_)
                      | ((with_reducible first | refine fork_dec ?_ ?_ | refine fork_eq ?_ ?_ | refine fork_ne ?_ ?_ | refine fork_intro ?_ ?_) <;> intro h <;> try (exfalso; first | omega | exact h rfl | (revert h; decide) | (cases h; done)))
                      | ((with_reducible show False); omega)
                      | ((first | (with_reducible first | refine r_exit ?_ | refine r_skip ?_ | refine r_cond ?_ | refine r_region ?_ | show VX _ _ _ _ _ _ _ | show vstep _ _ _ _ _ | show vskip _ _ _ | show withV _ _) | ((with_reducible show endA _ _ _ _ _ _ _); simp -implicitDefEqProofs only [endA])); simp -dsimp -implicitDefEqProofs (maxSteps := 1000000) (disch := first | omega | (simp only [LN, n8', hpl, g3, e8, Nat.mul_one, Option.some.injEq, exists_eq_left']; omega)) only [go_sem, Int.reduceToNat, Int.reducePow, Nat.reducePow, Int.reduceAdd, Int.reduceMul, Int.reduceSub, Int.reduceNeg, Nat.reduceAdd, Nat.reduceMul, Nat.reduceSub, Nat.reduceEqDiff, Nat.reduceLT, Nat.reduceLeDiff, n8', hpl, g3, e8, Nat.mul_one, Option.some.injEq, exists_eq_left'])
                      | ((first | (with_reducible refine r_ret ?_) | (with_reducible refine pick_viewG default (by first | omega | (simp only [LN, n8', hpl, g3, e8, Nat.mul_one, Option.some.injEq, exists_eq_left']; omega)) (by first | omega | (simp only [LN, n8', hpl, g3, e8, Nat.mul_one, Option.some.injEq, exists_eq_left']; omega)) ?_) | (with_reducible refine pick_own default (by first | omega | (simp only [LN, n8', hpl, g3, e8, Nat.mul_one, Option.some.injEq, exists_eq_left']; omega)) ?_) | (with_reducible refine And.intro (by first | decide | omega | assumption | (simp only [LN, n8', hpl, g3, e8, Nat.mul_one, Option.some.injEq, exists_eq_left']; omega)) ?_) | (with_reducible first | apply callK_lent | apply callF_lent | apply hideP_own) | ((with_reducible apply callA_go); (first | exact k52 | fail)) | ((with_reducible show pickE _ _ _); first | refine pickE_intro _ ⟨by omega, by rfl⟩ ?_ | refine pickE_intro _ (by rfl) ?_) | fail); try simp -dsimp -implicitDefEqProofs (maxSteps := 1000000) (disch := first | omega | (simp only [LN, n8', hpl, g3, e8, Nat.mul_one, Option.some.injEq, exists_eq_left']; omega)) only [go_sem, Int.reduceToNat, Int.reducePow, Nat.reducePow, Int.reduceAdd, Int.reduceMul, Int.reduceSub, Int.reduceNeg, Nat.reduceAdd, Nat.reduceMul, Nat.reduceSub, Nat.reduceEqDiff, Nat.reduceLT, Nat.reduceLeDiff, n8', hpl, g3, e8, Nat.mul_one, Option.some.injEq, exists_eq_left'])
                      | fail)
                    (refine loopQ_next (k + 1) ?_ ?_ ?_; (omega); (show _ < _; omega); (simp -dsimp -implicitDefEqProofs (maxSteps := 1000000) (disch := first | omega | (simp only [LN, putR_s]; omega)) only [go_sem, Int.reduceToNat, Int.reducePow, Nat.reducePow, Int.reduceAdd, Int.reduceMul, Int.reduceSub, Int.reduceNeg, Nat.reduceAdd, Nat.reduceMul, Nat.reduceSub, Nat.reduceEqDiff, Nat.reduceLT, Nat.reduceLeDiff, putR_s]; try trivial))
                  · obtain rfl : k = 8 := by omega
                    repeat' (first
                      | (with_reducible first | refine r_seq ?_ | refine r_block ?_ | refine fork_not ?_ | refine fork_and ?_ | refine fork_or ?_ | refine chk_ok (by kernel_rfl) ?_)
                      | ((with_reducible first | refine fork_dec ?_ ?_ | refine fork_eq ?_ ?_ | refine fork_ne ?_ ?_ | refine fork_intro ?_ ?_) <;> intro h <;> try (exfalso; first | omega | exact h rfl | (revert h; decide) | (cases h; done)))
                      | ((with_reducible show False); omega)
                      | ((first | (with_reducible first | refine r_exit ?_ | refine r_skip ?_ | refine r_cond ?_ | refine r_region ?_ | show VX _ _ _ _ _ _ _ | show vstep _ _ _ _ _ | show vskip _ _ _ | show withV _ _) | ((with_reducible show endA _ _ _ _ _ _ _); simp -implicitDefEqProofs only [endA])); simp -dsimp -implicitDefEqProofs (maxSteps := 1000000) (disch := first | omega | (simp only [LN, e8]; omega)) only [go_sem, Int.reduceToNat, Int.reducePow, Nat.reducePow, Int.reduceAdd, Int.reduceMul, Int.reduceSub, Int.reduceNeg, Nat.reduceAdd, Nat.reduceMul, Nat.reduceSub, Nat.reduceEqDiff, Nat.reduceLT, Nat.reduceLeDiff, e8])
                      | ((first | (with_reducible refine r_ret ?_) | (with_reducible refine pick_viewG default (by first | omega | (simp only [LN, e8]; omega)) (by first | omega | (simp only [LN, e8]; omega)) ?_) | (with_reducible refine pick_own default (by first | omega | (simp only [LN, e8]; omega)) ?_) | (with_reducible refine And.intro (by first | decide | omega | assumption | (simp only [LN, e8]; omega)) ?_) | ((with_reducible show pickE _ _ _); first | refine pickE_intro _ ⟨by omega, by rfl⟩ ?_ | refine pickE_intro _ (by rfl) ?_) | fail); try simp -dsimp -implicitDefEqProofs (maxSteps := 1000000) (disch := first | omega | (simp only [LN, e8]; omega)) only [go_sem, Int.reduceToNat, Int.reducePow, Nat.reducePow, Int.reduceAdd, Int.reduceMul, Int.reduceSub, Int.reduceNeg, Nat.reduceAdd, Nat.reduceMul, Nat.reduceSub, Nat.reduceEqDiff, Nat.reduceLT, Nat.reduceLeDiff, e8])
                      | fail)
                    have hh1 : after.length < f := by rw [List.length_append, List.length_cons] at g2; omega
                    have hh2 : at' + 1 + after.length ≤ 400002 := by rw [List.length_append, List.length_cons] at g4; omega
                    have hh3 : (putR p n r 8).length = 64 * lines := by rw [putR_len]; exact g3
                    have hh4 : (-1 : Int) ≤ n ∧ (n : Int) ≤ 4096 := by omega
                    have hh5 : after.length < (t ++ 10 :: after).length := by rw [List.length_append, List.length_cons]; omega
                    refine loopQ_next (after, putR p n r 8, (n : Int), at' + 1, f) ⟨g1, hh1, hh3, hh2, hh4.1, hh4.2⟩ hh5 ?_
                    generalize putR p n r 8 = q
                    clear g1 k63 k64 k65 k66
                    simp -dsimp -implicitDefEqProofs (maxSteps := 1000000) (disch := first | omega | (simp only [LN]; omega)) only [go_sem, Int.reduceToNat, Int.reducePow, Nat.reducePow, Int.reduceAdd, Int.reduceMul, Int.reduceSub, Int.reduceNeg, Nat.reduceAdd, Nat.reduceMul, Nat.reduceSub, Nat.reduceEqDiff, Nat.reduceLT, Nat.reduceLeDiff]
                    try trivial
              · rw [goodL_no (fun n' r' h => by rw [q1] at h; simp only [Option.some.injEq, Prod.mk.injEq] at h; obtain ⟨rfl, rfl⟩ := h; exact fun hh => hg hh.2)] at g1
                dsimp only at g1
                subst g1
                rw [cells8] at k66
                by_cases hg1 : n < lines ∧ prev < n
                · have hg2 : anyN r = false := Bool.eq_false_iff.2 fun hh => hg ⟨hg1.1, hg1.2, hh⟩
                  repeat' (first
                    | (with_reducible first | refine r_seq ?_ | refine r_block ?_ | refine fork_not ?_ | refine fork_and ?_ | refine fork_or ?_ | refine chk_ok (by kernel_rfl) ?_)
                    | ((with_reducible first | refine fork_dec ?_ ?_ | refine fork_eq ?_ ?_ | refine fork_ne ?_ ?_ | refine fork_intro ?_ ?_) <;> intro h <;> try (exfalso; first | omega | exact h rfl | (revert h; decide) | (cases h; done)))
                    | ((with_reducible show False); omega)
                    | ((first | (with_reducible first | refine r_exit ?_ | refine r_skip ?_ | refine r_cond ?_ | refine r_region ?_ | show VX _ _ _ _ _ _ _ | show vstep _ _ _ _ _ | show vskip _ _ _ | show withV _ _) | ((with_reducible show endA _ _ _ _ _ _ _); simp -implicitDefEqProofs only [endA])); simp -dsimp -implicitDefEqProofs (maxSteps := 1000000) (disch := first | omega | (simp only [LN, hn, decide_false]; omega)) only [go_sem, Int.reduceToNat, Int.reducePow, Nat.reducePow, Int.reduceAdd, Int.reduceMul, Int.reduceSub, Int.reduceNeg, Nat.reduceAdd, Nat.reduceMul, Nat.reduceSub, Nat.reduceEqDiff, Nat.reduceLT, Nat.reduceLeDiff, hn, decide_false])
                    | ((first | (with_reducible refine r_ret ?_) | (with_reducible refine pick_viewG default (by first | omega | (simp only [LN, hn, decide_false]; omega)) (by first | omega | (simp only [LN, hn, decide_false]; omega)) ?_) | (with_reducible refine pick_own default (by first | omega | (simp only [LN, hn, decide_false]; omega)) ?_) | (with_reducible refine And.intro (by first | decide | omega | assumption | (simp only [LN, hn, decide_false]; omega)) ?_) | ((with_reducible apply callK_pure); (first | exact k63 | exact k66 | fail)) | ((with_reducible apply callF_lend); (first | exact k63 | exact k66 | fail); rfl) | ((with_reducible apply callF_go); (first | exact k63 | exact k66 | fail)) | ((with_reducible show pickE _ _ _); first | refine pickE_intro _ ⟨by omega, by rfl⟩ ?_ | refine pickE_intro _ (by rfl) ?_) | fail); try simp -dsimp -implicitDefEqProofs (maxSteps := 1000000) (disch := first | omega | (simp only [LN, hn, decide_false]; omega)) only [go_sem, Int.reduceToNat, Int.reducePow, Nat.reducePow, Int.reduceAdd, Int.reduceMul, Int.reduceSub, Int.reduceNeg, Nat.reduceAdd, Nat.reduceMul, Nat.reduceSub, Nat.reduceEqDiff, Nat.reduceLT, Nat.reduceLeDiff, hn, decide_false])
                    | fail)
                  refine vEq115 r _ ?_
                  rw [hg2, Bool.not_false]
                  repeat' (first
                    | (with_reducible first | refine r_seq ?_ | refine r_block ?_ | refine fork_not ?_ | refine fork_and ?_ | refine fork_or ?_ | refine chk_ok (by kernel_rfl) ?_)
                    | ((with_reducible first | refine fork_dec ?_ ?_ | refine fork_eq ?_ ?_ | refine fork_ne ?_ ?_ | refine fork_intro ?_ ?_) <;> intro h <;> try (exfalso; first | omega | exact h rfl | (revert h; decide) | (cases h; done)))
                    | ((with_reducible show False); omega)
                    | ((first | (with_reducible first | refine r_exit ?_ | refine r_skip ?_ | refine r_cond ?_ | refine r_region ?_ | show VX _ _ _ _ _ _ _ | show vstep _ _ _ _ _ | show vskip _ _ _ | show withV _ _) | ((with_reducible show endA _ _ _ _ _ _ _); simp -implicitDefEqProofs only [endA])); simp -dsimp -implicitDefEqProofs (maxSteps := 1000000) (disch := first | omega | (simp only [LN, hn, decide_false]; omega)) only [go_sem, Int.reduceToNat, Int.reducePow, Nat.reducePow, Int.reduceAdd, Int.reduceMul, Int.reduceSub, Int.reduceNeg, Nat.reduceAdd, Nat.reduceMul, Nat.reduceSub, Nat.reduceEqDiff, Nat.reduceLT, Nat.reduceLeDiff, hn, decide_false])
                    | ((first | (with_reducible refine r_ret ?_) | (with_reducible refine pick_viewG default (by first | omega | (simp only [LN, hn, decide_false]; omega)) (by first | omega | (simp only [LN, hn, decide_false]; omega)) ?_) | (with_reducible refine pick_own default (by first | omega | (simp only [LN, hn, decide_false]; omega)) ?_) | (with_reducible refine And.intro (by first | decide | omega | assumption | (simp only [LN, hn, decide_false]; omega)) ?_) | ((with_reducible show pickE _ _ _); first | refine pickE_intro _ ⟨by omega, by rfl⟩ ?_ | refine pickE_intro _ (by rfl) ?_) | fail); try simp -dsimp -implicitDefEqProofs (maxSteps := 1000000) (disch := first | omega | (simp only [LN, hn, decide_false]; omega)) only [go_sem, Int.reduceToNat, Int.reducePow, Nat.reducePow, Int.reduceAdd, Int.reduceMul, Int.reduceSub, Int.reduceNeg, Nat.reduceAdd, Nat.reduceMul, Nat.reduceSub, Nat.reduceEqDiff, Nat.reduceLT, Nat.reduceLeDiff, hn, decide_false])
                    | fail)
                  all_goals trace_state
                · repeat' (first
                    | (with_reducible first | refine r_seq ?_ | refine r_block ?_ | refine fork_not ?_ | refine fork_and ?_ | refine fork_or ?_ | refine chk_ok (by kernel_rfl) ?_)
                    | ((with_reducible first | refine fork_dec ?_ ?_ | refine fork_eq ?_ ?_ | refine fork_ne ?_ ?_ | refine fork_intro ?_ ?_) <;> intro h <;> try (exfalso; first | omega | exact h rfl | (revert h; decide) | (cases h; done)))
                    | ((with_reducible show False); omega)
                    | ((first | (with_reducible first | refine r_exit ?_ | refine r_skip ?_ | refine r_cond ?_ | refine r_region ?_ | show VX _ _ _ _ _ _ _ | show vstep _ _ _ _ _ | show vskip _ _ _ | show withV _ _) | ((with_reducible show endA _ _ _ _ _ _ _); simp -implicitDefEqProofs only [endA])); simp -dsimp -implicitDefEqProofs (maxSteps := 1000000) (disch := first | omega | (simp only [LN, hn, decide_false]; omega)) only [go_sem, Int.reduceToNat, Int.reducePow, Nat.reducePow, Int.reduceAdd, Int.reduceMul, Int.reduceSub, Int.reduceNeg, Nat.reduceAdd, Nat.reduceMul, Nat.reduceSub, Nat.reduceEqDiff, Nat.reduceLT, Nat.reduceLeDiff, hn, decide_false])
                    | ((first | (with_reducible refine r_ret ?_) | (with_reducible refine pick_viewG default (by first | omega | (simp only [LN, hn, decide_false]; omega)) (by first | omega | (simp only [LN, hn, decide_false]; omega)) ?_) | (with_reducible refine pick_own default (by first | omega | (simp only [LN, hn, decide_false]; omega)) ?_) | (with_reducible refine And.intro (by first | decide | omega | assumption | (simp only [LN, hn, decide_false]; omega)) ?_) | ((with_reducible apply callK_pure); (first | exact k63 | exact k66 | fail)) | ((with_reducible apply callF_lend); (first | exact k63 | exact k66 | fail); rfl) | ((with_reducible apply callF_go); (first | exact k63 | exact k66 | fail)) | ((with_reducible show pickE _ _ _); first | refine pickE_intro _ ⟨by omega, by rfl⟩ ?_ | refine pickE_intro _ (by rfl) ?_) | fail); try simp -dsimp -implicitDefEqProofs (maxSteps := 1000000) (disch := first | omega | (simp only [LN, hn, decide_false]; omega)) only [go_sem, Int.reduceToNat, Int.reducePow, Nat.reducePow, Int.reduceAdd, Int.reduceMul, Int.reduceSub, Int.reduceNeg, Nat.reduceAdd, Nat.reduceMul, Nat.reduceSub, Nat.reduceEqDiff, Nat.reduceLT, Nat.reduceLeDiff, hn, decide_false])
                    | fail)
                  all_goals trace_state
            · rw [goodL_no (fun n' r' h => by rw [q1 n' r' h]; simp)] at g1
              dsimp only at g1
              subst g1
              repeat' (first
                | (with_reducible first | refine r_seq ?_ | refine r_block ?_ | refine fork_not ?_ | refine fork_and ?_ | refine fork_or ?_ | refine chk_ok (by kernel_rfl) ?_)
                | ((with_reducible first | refine fork_dec ?_ ?_ | refine fork_eq ?_ ?_ | refine fork_ne ?_ ?_ | refine fork_intro ?_ ?_) <;> intro h <;> try (exfalso; first | omega | exact h rfl | (revert h; decide) | (cases h; done)))
                | ((with_reducible show False); omega)
                | ((first | (with_reducible first | refine r_exit ?_ | refine r_skip ?_ | refine r_cond ?_ | refine r_region ?_ | show VX _ _ _ _ _ _ _ | show vstep _ _ _ _ _ | show vskip _ _ _ | show withV _ _) | ((with_reducible show endA _ _ _ _ _ _ _); simp -implicitDefEqProofs only [endA])); simp -dsimp -implicitDefEqProofs (maxSteps := 1000000) (disch := first | omega | (simp only [LN, hn, decide_false, cellsW]; omega)) only [go_sem, Int.reduceToNat, Int.reducePow, Nat.reducePow, Int.reduceAdd, Int.reduceMul, Int.reduceSub, Int.reduceNeg, Nat.reduceAdd, Nat.reduceMul, Nat.reduceSub, Nat.reduceEqDiff, Nat.reduceLT, Nat.reduceLeDiff, hn, decide_false, cellsW])
                | ((first | (with_reducible refine r_ret ?_) | (with_reducible refine pick_viewG default (by first | omega | (simp only [LN, hn, decide_false, cellsW]; omega)) (by first | omega | (simp only [LN, hn, decide_false, cellsW]; omega)) ?_) | (with_reducible refine pick_own default (by first | omega | (simp only [LN, hn, decide_false, cellsW]; omega)) ?_) | (with_reducible refine And.intro (by first | decide | omega | assumption | (simp only [LN, hn, decide_false, cellsW]; omega)) ?_) | ((with_reducible apply callK_pure); (first | exact k63 | exact k66 | fail)) | ((with_reducible apply callF_lend); (first | exact k63 | exact k66 | fail); rfl) | ((with_reducible apply callF_go); (first | exact k63 | exact k66 | fail)) | ((with_reducible show pickE _ _ _); first | refine pickE_intro _ ⟨by omega, by rfl⟩ ?_ | refine pickE_intro _ (by rfl) ?_) | fail); try simp -dsimp -implicitDefEqProofs (maxSteps := 1000000) (disch := first | omega | (simp only [LN, hn, decide_false, cellsW]; omega)) only [go_sem, Int.reduceToNat, Int.reducePow, Nat.reducePow, Int.reduceAdd, Int.reduceMul, Int.reduceSub, Int.reduceNeg, Nat.reduceAdd, Nat.reduceMul, Nat.reduceSub, Nat.reduceEqDiff, Nat.reduceLT, Nat.reduceLeDiff, hn, decide_false, cellsW])
                | fail)
              all_goals trace_state
    · have e : parM (first ++ 10 :: rest) = ([], 1, 11) := by unfold parM headN; rw [hc]; simp only [if_neg hh]
      rw [e]
      repeat' (first
        | (with_reducible first | refine r_seq ?_ | refine r_block ?_ | refine fork_not ?_ | refine fork_and ?_ | refine fork_or ?_ | refine chk_ok (by kernel_rfl) ?_)
        | ((with_reducible first | refine fork_dec ?_ ?_ | refine fork_eq ?_ ?_ | refine fork_ne ?_ ?_ | refine fork_intro ?_ ?_) <;> intro h <;> try (exfalso; first | omega | exact h rfl | (revert h; decide) | (cases h; done)))
        | ((with_reducible show False); omega)
        | ((first | (with_reducible first | refine r_exit ?_ | refine r_skip ?_ | refine r_cond ?_ | refine r_region ?_ | show VX _ _ _ _ _ _ _ | show vstep _ _ _ _ _ | show vskip _ _ _ | show withV _ _) | ((with_reducible show endA _ _ _ _ _ _ _); simp -implicitDefEqProofs only [endA])); simp -dsimp -implicitDefEqProofs (maxSteps := 1000000) (disch := first | omega | (simp only [LN]; omega)) only [go_sem, Int.reduceToNat, Int.reducePow, Nat.reducePow, Int.reduceAdd, Int.reduceMul, Int.reduceSub, Int.reduceNeg, Nat.reduceAdd, Nat.reduceMul, Nat.reduceSub, Nat.reduceEqDiff, Nat.reduceLT, Nat.reduceLeDiff])
        | ((first | (with_reducible refine r_ret ?_) | (with_reducible refine pick_viewG default (by first | omega | (simp only [LN]; omega)) (by first | omega | (simp only [LN]; omega)) ?_) | (with_reducible refine pick_own default (by first | omega | (simp only [LN]; omega)) ?_) | (with_reducible refine And.intro (by first | decide | omega | assumption | (simp only [LN]; omega)) ?_) | ((with_reducible apply callK_pure); (first | exact k63 | exact k64 | exact k65 | fail)) | ((with_reducible apply callF_lend); (first | exact k63 | exact k64 | exact k65 | fail); rfl) | ((with_reducible apply callF_go); (first | exact k63 | exact k64 | exact k65 | fail)) | ((with_reducible show pickE _ _ _); first | refine pickE_intro _ ⟨by omega, by rfl⟩ ?_ | refine pickE_intro _ (by rfl) ?_) | fail); try simp -dsimp -implicitDefEqProofs (maxSteps := 1000000) (disch := first | omega | (simp only [LN]; omega)) only [go_sem, Int.reduceToNat, Int.reducePow, Nat.reducePow, Int.reduceAdd, Int.reduceMul, Int.reduceSub, Int.reduceNeg, Nat.reduceAdd, Nat.reduceMul, Nat.reduceSub, Nat.reduceEqDiff, Nat.reduceLT, Nat.reduceLeDiff])
        | fail)
      all_goals exact absurd ⟨by assumption, by assumption⟩ hh
end Go.Proofs.YtcnbngflehiphaaDoor
