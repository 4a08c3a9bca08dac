/- Contracts of functions of this program, and the plain facts that they rest on. No conditions. -/
import Derived.Test.YtlkffmmgcoiniaaDoorD19
set_option linter.unusedSimpArgs false
set_option linter.unusedVariables false
namespace Go.Proofs.YtlkffmmgcoiniaaDoor
open Go Go.Ab
attribute [local irreducible] callK callF loopQ vstep vskip pickE hideP
set_option maxRecDepth 100000
attribute [local go_sem] eF rF eS eP eX rX eQ eL eN eW
theorem plAt_full (x : X) (f k : Nat) : plAt x.fs f k = ⟨f, k, (posE x f k).1, (posE x f k).2, wdE x f⟩ := rfl
theorem wok_w (x : X) (j : Nat) : WOk (wdE x j) := wok _
theorem msk_iff {w v : Nat} : mskN w < v ↔ 2 ^ w ≤ v := by unfold mskN; have := Nat.two_pow_pos w; omega
theorem words_e {x : X} : (((posTo x.fs x.fs.length).1 : Int) + 1) = (wordsM x : Int) := by unfold wordsM; omega
theorem c23g {x : X} (G : Good x) (hl : x.fs.length ≤ 40) : PCalls Tryd.prog 23 [rX x] (.v (.int .i64 (wordsM x))) := by
  have := c23 x hl (by have := G.arg; omega) G.cnt
  rw [words_e] at this; exact this
theorem cAtG {x : X} (G : Good x) (hl : x.fs.length ≤ 40) {f k : Nat} (hf : f < x.fs.length) (hk : (k : Int) < (x.fs.getD f default).cnt) : PCalls Tryd.prog 50 [rX x, .v (.int .i64 f), .v (.int .i64 k)] (eQ ⟨f, k, (posE x f k).1, (posE x f k).2, wdE x f⟩) := by
  have := cAt x hl G.cnt f k hf hk
  rw [plAt_full] at this; exact this
theorem fieldE2 {v s w : Nat} (hv : v < 18446744073709551616) (hw : w ≤ 64) :
    IntKind.u64.wrap ((BitVec.ofInt IntKind.u64.bits ((v : Int) / 2 ^ s) &&& BitVec.ofInt IntKind.u64.bits ((mskN w : Nat) : Int)).toNat : Int) = (getB v s w : Int) := by
  show IntKind.u64.wrap ((BitVec.ofInt 64 ((v : Int) / 2 ^ s) &&& BitVec.ofInt 64 ((mskN w : Nat) : Int)).toNat : Int) = (getB v s w : Int)
  have hd : v / 2 ^ s < 18446744073709551616 := Nat.lt_of_le_of_lt (Nat.div_le_self _ _) hv
  rw [divN, ofIntN, ofIntN]
  have := andM (a := v / 2 ^ s) hd hw
  rw [show (BitVec.ofNat 64 (v / 2 ^ s) &&& BitVec.ofNat 64 (mskN w)).toNat = v / 2 ^ s % 2 ^ w from this]
  exact wrapN (Nat.lt_of_le_of_lt (Nat.mod_le _ _) hd)
theorem setE2 {v s w y : Nat} (hs : s + w ≤ 64) (hw : w ≤ 64) (hy : y < 2 ^ w) :
    IntKind.u64.wrap ((BitVec.ofInt IntKind.u64.bits (IntKind.u64.wrap ((BitVec.ofInt IntKind.u64.bits ((v : Nat) : Int) &&& ~~~BitVec.ofInt IntKind.u64.bits (IntKind.u64.wrap (((mskN w : Nat) : Int) * 2 ^ s))).toNat : Int)) |||
      BitVec.ofInt IntKind.u64.bits (IntKind.u64.wrap ((y : Int) * 2 ^ s))).toNat : Int) = (setB v s w y : Int) := by
  have := setE (v := v) hs hw hy
  rw [minN (by omega)] at this
  exact this
theorem set_end {ws : List Nat} {p n : Nat} {z : Int} (h : z = n) : min ws.length ((ws.map eW).set p (.v (.int .u64 z))).length = ws.length ∧ ((ws.map eW).set p (.v (.int .u64 z))).take ws.length = (ws.set p n).map eW := by
  subst h
  refine ⟨by simp, ?_⟩
  rw [List.take_of_length_le (by simp), List.map_set]; rfl
attribute [local irreducible] slotAt posE wdE wordsM getB setB mskN plAt
set_option maxRecDepth 100000 in
set_option maxHeartbeats 4000000 in
theorem c30 (x : X) (G : Good x) (hl : x.fs.length ≤ 40) (ws : List Nat) (hu : U64 ws) (nm : List UInt8) (i : Int) : PCalls Tryd.prog 30 [rX x, .view 1 (ws.map eW), .v (.string (bs nm)), .v (.int .i64 i)] (.tup [.v (.int .u64 (getR x ws nm i).1), .v (.int .i64 (getR x ws nm i).2)]) := by
  refine pcalls_facts ⟨_, rfl, rfl, by decide⟩ fun hf => ?_
  simp only [go_sem, big] at hf
  refine pcalls_of (E := E) (fn := Tryd.f30) 50 [.tmp 8, .tmp 9] rfl rfl rfl rfl (by decide) rfl ?_
  have cw := c23g G hl
  have cn := cFind x hl nm
  by_cases hlen : ws.length = wordsM x
  · cases hf : fnd x nm with
    | none =>
      obtain ⟨e1, e2, e3⟩ := find_5 (i := i) hlen hf
      have en := fndI_n hf
      rw [en] at cn
      repeat' (first
        | (with_reducible first | refine r_seq ?_ | refine r_block ?_ | refine fork_not ?_ | refine fork_and ?_ | refine fork_or ?_ | refine chk_ok (by kernel_rfl) ?_)
        | ((with_reducible first | refine fork_dec ?_ ?_ | refine fork_eq ?_ ?_ | refine fork_ne ?_ ?_ | refine fork_intro ?_ ?_) <;> intro h <;> try (exfalso; first | omega | exact h rfl | (revert h; decide) | (cases h; done)))
        | ((with_reducible show False); omega)
        | ((first | (with_reducible first | refine r_exit ?_ | refine r_skip ?_ | refine r_cond ?_ | refine r_region ?_ | show VX _ _ _ _ _ _ _ | show vstep _ _ _ _ _ | show vskip _ _ _ | show withV _ _) | ((with_reducible show endA _ _ _ _ _ _ _); simp -implicitDefEqProofs only [endA])); simp -dsimp -implicitDefEqProofs (maxSteps := 1000000) (disch := first | omega | (simp only [LN, e2]; omega)) only [go_sem, Int.reduceToNat, Int.reducePow, Nat.reducePow, Int.reduceAdd, Int.reduceMul, Int.reduceSub, Int.reduceNeg, Nat.reduceAdd, Nat.reduceMul, Nat.reduceSub, Nat.reduceEqDiff, Nat.reduceLT, Nat.reduceLeDiff, e2])
        | ((first | (with_reducible refine r_ret ?_) | (with_reducible refine pick_viewG default (by first | omega | (simp only [LN, e2]; omega)) (by first | omega | (simp only [LN, e2]; omega)) ?_) | (with_reducible refine pick_own default (by first | omega | (simp only [LN, e2]; omega)) ?_) | (with_reducible refine And.intro (by first | decide | omega | assumption | (simp only [LN, e2]; omega)) ?_) | ((with_reducible apply callK_pure); (first | exact cw | exact cn | fail)) | ((with_reducible apply callF_lend); (first | exact cw | exact cn | fail); rfl) | ((with_reducible apply callF_go); (first | exact cw | exact cn | fail)) | ((with_reducible show pickE _ _ _); first | refine pickE_intro _ ⟨by omega, by rfl⟩ ?_ | refine pickE_intro _ (by rfl) ?_) | fail); try simp -dsimp -implicitDefEqProofs (maxSteps := 1000000) (disch := first | omega | (simp only [LN, e2]; omega)) only [go_sem, Int.reduceToNat, Int.reducePow, Nat.reducePow, Int.reduceAdd, Int.reduceMul, Int.reduceSub, Int.reduceNeg, Nat.reduceAdd, Nat.reduceMul, Nat.reduceSub, Nat.reduceEqDiff, Nat.reduceLT, Nat.reduceLeDiff, e2])
        | fail)
      all_goals first | rfl | omega | trace_state
    | some j =>
      have en := fndI_s hf
      rw [en] at cn
      have hj := (fndTo_some hf).1
      by_cases hi : i < 0 ∨ (x.fs.getD j default).cnt ≤ i
      · obtain ⟨e1, e2, e3⟩ := find_2 hlen hf hi
        repeat' (first
          | (with_reducible first | refine r_seq ?_ | refine r_block ?_ | refine fork_not ?_ | refine fork_and ?_ | refine fork_or ?_ | refine chk_ok (by kernel_rfl) ?_)
          | ((with_reducible first | refine fork_dec ?_ ?_ | refine fork_eq ?_ ?_ | refine fork_ne ?_ ?_ | refine fork_intro ?_ ?_) <;> intro h <;> try (exfalso; first | omega | exact h rfl | (revert h; decide) | (cases h; done)))
          | ((with_reducible show False); omega)
          | ((first | (with_reducible first | refine r_exit ?_ | refine r_skip ?_ | refine r_cond ?_ | refine r_region ?_ | show VX _ _ _ _ _ _ _ | show vstep _ _ _ _ _ | show vskip _ _ _ | show withV _ _) | ((with_reducible show endA _ _ _ _ _ _ _); simp -implicitDefEqProofs only [endA])); simp -dsimp -implicitDefEqProofs (maxSteps := 1000000) (disch := first | omega | (simp only [LN, e2]; omega)) only [go_sem, Int.reduceToNat, Int.reducePow, Nat.reducePow, Int.reduceAdd, Int.reduceMul, Int.reduceSub, Int.reduceNeg, Nat.reduceAdd, Nat.reduceMul, Nat.reduceSub, Nat.reduceEqDiff, Nat.reduceLT, Nat.reduceLeDiff, e2])
          | ((first | (with_reducible refine r_ret ?_) | (with_reducible refine pick_viewG default (by first | omega | (simp only [LN, e2]; omega)) (by first | omega | (simp only [LN, e2]; omega)) ?_) | (with_reducible refine pick_own default (by first | omega | (simp only [LN, e2]; omega)) ?_) | (with_reducible refine And.intro (by first | decide | omega | assumption | (simp only [LN, e2]; omega)) ?_) | ((with_reducible apply callK_pure); (first | exact cw | exact cn | fail)) | ((with_reducible apply callF_lend); (first | exact cw | exact cn | fail); rfl) | ((with_reducible apply callF_go); (first | exact cw | exact cn | fail)) | ((with_reducible show pickE _ _ _); first | refine pickE_intro _ ⟨by omega, by rfl⟩ ?_ | refine pickE_intro _ (by rfl) ?_) | fail); try simp -dsimp -implicitDefEqProofs (maxSteps := 1000000) (disch := first | omega | (simp only [LN, e2]; omega)) only [go_sem, Int.reduceToNat, Int.reducePow, Nat.reducePow, Int.reduceAdd, Int.reduceMul, Int.reduceSub, Int.reduceNeg, Nat.reduceAdd, Nat.reduceMul, Nat.reduceSub, Nat.reduceEqDiff, Nat.reduceLT, Nat.reduceLeDiff, e2])
          | fail)
        all_goals first | rfl | omega | trace_state
      · obtain ⟨e1, e2, e3⟩ := find_0 hlen hf hi
        obtain ⟨k, rfl⟩ := Int.eq_ofNat_of_zero_le (show (0 : Int) ≤ i by omega)
        rw [Int.toNat_natCast] at e2
        have ca := cAtG G hl hj (k := k) (by omega)
        have hin := posE_in G.cnt hj (k := k) (by omega)
        have hfit := posE_fit G.cnt hj k
        have hww := wok_1 (wok_w x j)
        repeat' (first
          | (with_reducible first | refine r_seq ?_ | refine r_block ?_ | refine fork_not ?_ | refine fork_and ?_ | refine fork_or ?_ | refine chk_ok (by kernel_rfl) ?_)
          | ((with_reducible first | refine fork_dec ?_ ?_ | refine fork_eq ?_ ?_ | refine fork_ne ?_ ?_ | refine fork_intro ?_ ?_) <;> intro h <;> try (exfalso; first | omega | exact h rfl | (revert h; decide) | (cases h; done)))
          | ((with_reducible show False); omega)
          | ((first | (with_reducible first | refine r_exit ?_ | refine r_skip ?_ | refine r_cond ?_ | refine r_region ?_ | show VX _ _ _ _ _ _ _ | show vstep _ _ _ _ _ | show vskip _ _ _ | show withV _ _) | ((with_reducible show endA _ _ _ _ _ _ _); simp -implicitDefEqProofs only [endA])); simp -dsimp -implicitDefEqProofs (maxSteps := 1000000) (disch := first | omega | (simp only [LN, e2]; omega)) only [go_sem, Int.reduceToNat, Int.reducePow, Nat.reducePow, Int.reduceAdd, Int.reduceMul, Int.reduceSub, Int.reduceNeg, Nat.reduceAdd, Nat.reduceMul, Nat.reduceSub, Nat.reduceEqDiff, Nat.reduceLT, Nat.reduceLeDiff, e2])
          | ((first | (with_reducible refine r_ret ?_) | (with_reducible refine pick_viewG default (by first | omega | (simp only [LN, e2]; omega)) (by first | omega | (simp only [LN, e2]; omega)) ?_) | (with_reducible refine pick_own default (by first | omega | (simp only [LN, e2]; omega)) ?_) | (with_reducible refine And.intro (by first | decide | omega | assumption | (simp only [LN, e2]; omega)) ?_) | ((with_reducible apply callK_pure); (first | exact cw | exact cn | exact ca | exact c46 _ (wok_w x j) | fail)) | ((with_reducible apply callF_lend); (first | exact cw | exact cn | exact ca | exact c46 _ (wok_w x j) | fail); rfl) | ((with_reducible apply callF_go); (first | exact cw | exact cn | exact ca | exact c46 _ (wok_w x j) | fail)) | ((with_reducible show pickE _ _ _); first | refine pickE_intro _ ⟨by omega, by rfl⟩ ?_ | refine pickE_intro _ (by rfl) ?_) | fail); try simp -dsimp -implicitDefEqProofs (maxSteps := 1000000) (disch := first | omega | (simp only [LN, e2]; omega)) only [go_sem, Int.reduceToNat, Int.reducePow, Nat.reducePow, Int.reduceAdd, Int.reduceMul, Int.reduceSub, Int.reduceNeg, Nat.reduceAdd, Nat.reduceMul, Nat.reduceSub, Nat.reduceEqDiff, Nat.reduceLT, Nat.reduceLeDiff, e2])
          | fail)
        all_goals try first | rfl | omega
        rw [fieldE2 (hu _) hww.2]
  · obtain ⟨e1, e2, e3⟩ := find_1 (nm := nm) (i := i) hlen
    repeat' (first
      | (with_reducible first | refine r_seq ?_ | refine r_block ?_ | refine fork_not ?_ | refine fork_and ?_ | refine fork_or ?_ | refine chk_ok (by kernel_rfl) ?_)
      | ((with_reducible first | refine fork_dec ?_ ?_ | refine fork_eq ?_ ?_ | refine fork_ne ?_ ?_ | refine fork_intro ?_ ?_) <;> intro h <;> try (exfalso; first | omega | exact h rfl | (revert h; decide) | (cases h; done)))
      | ((with_reducible show False); omega)
      | ((first | (with_reducible first | refine r_exit ?_ | refine r_skip ?_ | refine r_cond ?_ | refine r_region ?_ | show VX _ _ _ _ _ _ _ | show vstep _ _ _ _ _ | show vskip _ _ _ | show withV _ _) | ((with_reducible show endA _ _ _ _ _ _ _); simp -implicitDefEqProofs only [endA])); simp -dsimp -implicitDefEqProofs (maxSteps := 1000000) (disch := first | omega | (simp only [LN, e2]; omega)) only [go_sem, Int.reduceToNat, Int.reducePow, Nat.reducePow, Int.reduceAdd, Int.reduceMul, Int.reduceSub, Int.reduceNeg, Nat.reduceAdd, Nat.reduceMul, Nat.reduceSub, Nat.reduceEqDiff, Nat.reduceLT, Nat.reduceLeDiff, e2])
      | ((first | (with_reducible refine r_ret ?_) | (with_reducible refine pick_viewG default (by first | omega | (simp only [LN, e2]; omega)) (by first | omega | (simp only [LN, e2]; omega)) ?_) | (with_reducible refine pick_own default (by first | omega | (simp only [LN, e2]; omega)) ?_) | (with_reducible refine And.intro (by first | decide | omega | assumption | (simp only [LN, e2]; omega)) ?_) | ((with_reducible apply callK_pure); (first | exact cw | exact cn | fail)) | ((with_reducible apply callF_lend); (first | exact cw | exact cn | fail); rfl) | ((with_reducible apply callF_go); (first | exact cw | exact cn | fail)) | ((with_reducible show pickE _ _ _); first | refine pickE_intro _ ⟨by omega, by rfl⟩ ?_ | refine pickE_intro _ (by rfl) ?_) | fail); try simp -dsimp -implicitDefEqProofs (maxSteps := 1000000) (disch := first | omega | (simp only [LN, e2]; omega)) only [go_sem, Int.reduceToNat, Int.reducePow, Nat.reducePow, Int.reduceAdd, Int.reduceMul, Int.reduceSub, Int.reduceNeg, Nat.reduceAdd, Nat.reduceMul, Nat.reduceSub, Nat.reduceEqDiff, Nat.reduceLT, Nat.reduceLeDiff, e2])
      | fail)
    all_goals first | rfl | omega | trace_state
set_option maxRecDepth 100000 in
set_option maxHeartbeats 4000000 in
theorem c31 (x : X) (G : Good x) (hl : x.fs.length ≤ 40) (ws : List Nat) (hu : U64 ws) (nm : List UInt8) (i : Int) (v : Nat) (hv : v < 18446744073709551616) : PCalls Tryd.prog 31 [rX x, .view 1 (ws.map eW), .v (.string (bs nm)), .v (.int .i64 i), .v (.int .u64 v)] (.tup [.view 1 ((setR x ws nm i v).1.map eW), .v (.int .i64 (setR x ws nm i v).2)]) := by
  refine pcalls_facts ⟨_, rfl, rfl, by decide⟩ fun hf => ?_
  simp only [go_sem, big] at hf
  refine pcalls_of (E := E) (fn := Tryd.f31) 63 [.tmp 10, .tmp 11] rfl rfl rfl rfl (by decide) rfl ?_
  have cg := c30 x G hl ws hu nm i
  have cn := cFind x hl nm
  by_cases hlen : ws.length = wordsM x
  · cases hf : fnd x nm with
    | none =>
      obtain ⟨e1, e2, e3⟩ := find_5 (i := i) hlen hf
      rw [e2] at cg
      repeat' (first
        | (with_reducible first | refine r_seq ?_ | refine r_block ?_ | refine fork_not ?_ | refine fork_and ?_ | refine fork_or ?_ | refine chk_ok (by kernel_rfl) ?_)
        | ((with_reducible first | refine fork_dec ?_ ?_ | refine fork_eq ?_ ?_ | refine fork_ne ?_ ?_ | refine fork_intro ?_ ?_) <;> intro h <;> try (exfalso; first | omega | exact h rfl | (revert h; decide) | (cases h; done)))
        | ((with_reducible show False); omega)
        | ((first | (with_reducible first | refine r_exit ?_ | refine r_skip ?_ | refine r_cond ?_ | refine r_region ?_ | show VX _ _ _ _ _ _ _ | show vstep _ _ _ _ _ | show vskip _ _ _ | show withV _ _) | ((with_reducible show endA _ _ _ _ _ _ _); simp -implicitDefEqProofs only [endA])); simp -dsimp -implicitDefEqProofs (maxSteps := 1000000) (disch := first | omega | (simp only [LN, e3]; omega)) only [go_sem, Int.reduceToNat, Int.reducePow, Nat.reducePow, Int.reduceAdd, Int.reduceMul, Int.reduceSub, Int.reduceNeg, Nat.reduceAdd, Nat.reduceMul, Nat.reduceSub, Nat.reduceEqDiff, Nat.reduceLT, Nat.reduceLeDiff, e3])
        | ((first | (with_reducible refine r_ret ?_) | (with_reducible refine pick_viewG default (by first | omega | (simp only [LN, e3]; omega)) (by first | omega | (simp only [LN, e3]; omega)) ?_) | (with_reducible refine pick_own default (by first | omega | (simp only [LN, e3]; omega)) ?_) | (with_reducible refine And.intro (by first | decide | omega | assumption | (simp only [LN, e3]; omega)) ?_) | ((with_reducible apply callK_pure); (exact cg)) | ((with_reducible apply callF_lend); (exact cg); rfl) | ((with_reducible apply callF_go); (exact cg)) | ((with_reducible show pickE _ _ _); first | refine pickE_intro _ ⟨by omega, by rfl⟩ ?_ | refine pickE_intro _ (by rfl) ?_) | fail); try simp -dsimp -implicitDefEqProofs (maxSteps := 1000000) (disch := first | omega | (simp only [LN, e3]; omega)) only [go_sem, Int.reduceToNat, Int.reducePow, Nat.reducePow, Int.reduceAdd, Int.reduceMul, Int.reduceSub, Int.reduceNeg, Nat.reduceAdd, Nat.reduceMul, Nat.reduceSub, Nat.reduceEqDiff, Nat.reduceLT, Nat.reduceLeDiff, e3])
        | fail)
      all_goals first | rfl | omega | trace_state
    | some j =>
      have en := fndI_s hf
      rw [en] at cn
      have hj := (fndTo_some hf).1
      by_cases hi : i < 0 ∨ (x.fs.getD j default).cnt ≤ i
      · obtain ⟨e1, e2, e3⟩ := find_2 hlen hf hi
        rw [e2] at cg
        repeat' (first
          | (with_reducible first | refine r_seq ?_ | refine r_block ?_ | refine fork_not ?_ | refine fork_and ?_ | refine fork_or ?_ | refine chk_ok (by kernel_rfl) ?_)
          | ((with_reducible first | refine fork_dec ?_ ?_ | refine fork_eq ?_ ?_ | refine fork_ne ?_ ?_ | refine fork_intro ?_ ?_) <;> intro h <;> try (exfalso; first | omega | exact h rfl | (revert h; decide) | (cases h; done)))
          | ((with_reducible show False); omega)
          | ((first | (with_reducible first | refine r_exit ?_ | refine r_skip ?_ | refine r_cond ?_ | refine r_region ?_ | show VX _ _ _ _ _ _ _ | show vstep _ _ _ _ _ | show vskip _ _ _ | show withV _ _) | ((with_reducible show endA _ _ _ _ _ _ _); simp -implicitDefEqProofs only [endA])); simp -dsimp -implicitDefEqProofs (maxSteps := 1000000) (disch := first | omega | (simp only [LN, e3]; omega)) only [go_sem, Int.reduceToNat, Int.reducePow, Nat.reducePow, Int.reduceAdd, Int.reduceMul, Int.reduceSub, Int.reduceNeg, Nat.reduceAdd, Nat.reduceMul, Nat.reduceSub, Nat.reduceEqDiff, Nat.reduceLT, Nat.reduceLeDiff, e3])
          | ((first | (with_reducible refine r_ret ?_) | (with_reducible refine pick_viewG default (by first | omega | (simp only [LN, e3]; omega)) (by first | omega | (simp only [LN, e3]; omega)) ?_) | (with_reducible refine pick_own default (by first | omega | (simp only [LN, e3]; omega)) ?_) | (with_reducible refine And.intro (by first | decide | omega | assumption | (simp only [LN, e3]; omega)) ?_) | ((with_reducible apply callK_pure); (exact cg)) | ((with_reducible apply callF_lend); (exact cg); rfl) | ((with_reducible apply callF_go); (exact cg)) | ((with_reducible show pickE _ _ _); first | refine pickE_intro _ ⟨by omega, by rfl⟩ ?_ | refine pickE_intro _ (by rfl) ?_) | fail); try simp -dsimp -implicitDefEqProofs (maxSteps := 1000000) (disch := first | omega | (simp only [LN, e3]; omega)) only [go_sem, Int.reduceToNat, Int.reducePow, Nat.reducePow, Int.reduceAdd, Int.reduceMul, Int.reduceSub, Int.reduceNeg, Nat.reduceAdd, Nat.reduceMul, Nat.reduceSub, Nat.reduceEqDiff, Nat.reduceLT, Nat.reduceLeDiff, e3])
          | fail)
        all_goals first | rfl | omega | trace_state
      · obtain ⟨e1, e2, e3⟩ := find_0 hlen hf hi
        rw [e2] at cg
        have e3 := e3 v
        obtain ⟨k, rfl⟩ := Int.eq_ofNat_of_zero_le (show (0 : Int) ≤ i by omega)
        rw [Int.toNat_natCast] at e3 cg
        have ca := cAtG G hl hj (k := k) (by omega)
        have hin := posE_in G.cnt hj (k := k) (by omega)
        have hfit := posE_fit G.cnt hj k
        have hww := wok_1 (wok_w x j)
        have hmi := msk_iff (w := wdE x j) (v := v)
        have hbig : wordsM x ≤ 1000000 := by have := G.fit; unfold wordsM; omega
        by_cases hlt : 2 ^ wdE x j ≤ v
        · rw [if_pos hlt] at e3
          have hm2 := hmi.2 hlt
          repeat' (first
            | (with_reducible first | refine r_seq ?_ | refine r_block ?_ | refine fork_not ?_ | refine fork_and ?_ | refine fork_or ?_ | refine chk_ok (by kernel_rfl) ?_)
            | ((with_reducible first | refine fork_dec ?_ ?_ | refine fork_eq ?_ ?_ | refine fork_ne ?_ ?_ | refine fork_intro ?_ ?_) <;> intro h <;> try (exfalso; first | omega | exact h rfl | (revert h; decide) | (cases h; done)))
            | ((with_reducible show False); omega)
            | ((first | (with_reducible first | refine r_exit ?_ | refine r_skip ?_ | refine r_cond ?_ | refine r_region ?_ | show VX _ _ _ _ _ _ _ | show vstep _ _ _ _ _ | show vskip _ _ _ | show withV _ _) | ((with_reducible show endA _ _ _ _ _ _ _); simp -implicitDefEqProofs only [endA])); simp -dsimp -implicitDefEqProofs (maxSteps := 1000000) (disch := first | omega | (simp only [LN, e3]; omega)) only [go_sem, Int.reduceToNat, Int.reducePow, Nat.reducePow, Int.reduceAdd, Int.reduceMul, Int.reduceSub, Int.reduceNeg, Nat.reduceAdd, Nat.reduceMul, Nat.reduceSub, Nat.reduceEqDiff, Nat.reduceLT, Nat.reduceLeDiff, e3])
            | ((first | (with_reducible refine r_ret ?_) | (with_reducible refine pick_viewG default (by first | omega | (simp only [LN, e3]; omega)) (by first | omega | (simp only [LN, e3]; omega)) ?_) | (with_reducible refine pick_own default (by first | omega | (simp only [LN, e3]; omega)) ?_) | (with_reducible refine And.intro (by first | decide | omega | assumption | (simp only [LN, e3]; omega)) ?_) | ((with_reducible apply callK_pure); (first | exact cg | exact cn | exact ca | exact c46 _ (wok_w x j) | fail)) | ((with_reducible apply callF_lend); (first | exact cg | exact cn | exact ca | exact c46 _ (wok_w x j) | fail); rfl) | ((with_reducible apply callF_go); (first | exact cg | exact cn | exact ca | exact c46 _ (wok_w x j) | fail)) | ((with_reducible show pickE _ _ _); first | refine pickE_intro _ ⟨by omega, by rfl⟩ ?_ | refine pickE_intro _ (by rfl) ?_) | fail); try simp -dsimp -implicitDefEqProofs (maxSteps := 1000000) (disch := first | omega | (simp only [LN, e3]; omega)) only [go_sem, Int.reduceToNat, Int.reducePow, Nat.reducePow, Int.reduceAdd, Int.reduceMul, Int.reduceSub, Int.reduceNeg, Nat.reduceAdd, Nat.reduceMul, Nat.reduceSub, Nat.reduceEqDiff, Nat.reduceLT, Nat.reduceLeDiff, e3])
            | fail)
          all_goals first | rfl | omega | trace_state
        · rw [if_neg hlt] at e3
          have hm2 : ¬ mskN (wdE x j) < v := fun h => hlt (hmi.1 h)
          repeat' (first
            | (with_reducible first | refine r_seq ?_ | refine r_block ?_ | refine fork_not ?_ | refine fork_and ?_ | refine fork_or ?_ | refine chk_ok (by kernel_rfl) ?_)
            | ((with_reducible first | refine fork_dec ?_ ?_ | refine fork_eq ?_ ?_ | refine fork_ne ?_ ?_ | refine fork_intro ?_ ?_) <;> intro h <;> try (exfalso; first | omega | exact h rfl | (revert h; decide) | (cases h; done)))
            | ((with_reducible show False); omega)
            | ((first | (with_reducible first | refine r_exit ?_ | refine r_skip ?_ | refine r_cond ?_ | refine r_region ?_ | show VX _ _ _ _ _ _ _ | show vstep _ _ _ _ _ | show vskip _ _ _ | show withV _ _) | ((with_reducible show endA _ _ _ _ _ _ _); simp -implicitDefEqProofs only [endA])); simp -dsimp -implicitDefEqProofs (maxSteps := 1000000) (disch := first | omega | (simp only [LN, e3]; omega)) only [go_sem, Int.reduceToNat, Int.reducePow, Nat.reducePow, Int.reduceAdd, Int.reduceMul, Int.reduceSub, Int.reduceNeg, Nat.reduceAdd, Nat.reduceMul, Nat.reduceSub, Nat.reduceEqDiff, Nat.reduceLT, Nat.reduceLeDiff, e3])
            | ((first | (with_reducible refine r_ret ?_) | (with_reducible refine pick_viewG default (by first | omega | (simp only [LN, e3]; omega)) (by first | omega | (simp only [LN, e3]; omega)) ?_) | (with_reducible refine pick_own default (by first | omega | (simp only [LN, e3]; omega)) ?_) | (with_reducible refine And.intro (by first | decide | omega | assumption | (simp only [LN, e3]; omega)) ?_) | ((with_reducible apply callK_pure); (first | exact cg | exact cn | exact ca | exact c46 _ (wok_w x j) | fail)) | ((with_reducible apply callF_lend); (first | exact cg | exact cn | exact ca | exact c46 _ (wok_w x j) | fail); rfl) | ((with_reducible apply callF_go); (first | exact cg | exact cn | exact ca | exact c46 _ (wok_w x j) | fail)) | ((with_reducible show pickE _ _ _); first | refine pickE_intro _ ⟨by omega, by rfl⟩ ?_ | refine pickE_intro _ (by rfl) ?_) | fail); try simp -dsimp -implicitDefEqProofs (maxSteps := 1000000) (disch := first | omega | (simp only [LN, e3]; omega)) only [go_sem, Int.reduceToNat, Int.reducePow, Nat.reducePow, Int.reduceAdd, Int.reduceMul, Int.reduceSub, Int.reduceNeg, Nat.reduceAdd, Nat.reduceMul, Nat.reduceSub, Nat.reduceEqDiff, Nat.reduceLT, Nat.reduceLeDiff, e3])
            | fail)
          all_goals try first | rfl | omega
          all_goals exact set_end (setE2 hfit hww.2 (by omega))
  · obtain ⟨e1, e2, e3⟩ := find_1 (nm := nm) (i := i) hlen
    rw [e2] at cg
    repeat' (first
      | (with_reducible first | refine r_seq ?_ | refine r_block ?_ | refine fork_not ?_ | refine fork_and ?_ | refine fork_or ?_ | refine chk_ok (by kernel_rfl) ?_)
      | ((with_reducible first | refine fork_dec ?_ ?_ | refine fork_eq ?_ ?_ | refine fork_ne ?_ ?_ | refine fork_intro ?_ ?_) <;> intro h <;> try (exfalso; first | omega | exact h rfl | (revert h; decide) | (cases h; done)))
      | ((with_reducible show False); omega)
      | ((first | (with_reducible first | refine r_exit ?_ | refine r_skip ?_ | refine r_cond ?_ | refine r_region ?_ | show VX _ _ _ _ _ _ _ | show vstep _ _ _ _ _ | show vskip _ _ _ | show withV _ _) | ((with_reducible show endA _ _ _ _ _ _ _); simp -implicitDefEqProofs only [endA])); simp -dsimp -implicitDefEqProofs (maxSteps := 1000000) (disch := first | omega | (simp only [LN, e3]; omega)) only [go_sem, Int.reduceToNat, Int.reducePow, Nat.reducePow, Int.reduceAdd, Int.reduceMul, Int.reduceSub, Int.reduceNeg, Nat.reduceAdd, Nat.reduceMul, Nat.reduceSub, Nat.reduceEqDiff, Nat.reduceLT, Nat.reduceLeDiff, e3])
      | ((first | (with_reducible refine r_ret ?_) | (with_reducible refine pick_viewG default (by first | omega | (simp only [LN, e3]; omega)) (by first | omega | (simp only [LN, e3]; omega)) ?_) | (with_reducible refine pick_own default (by first | omega | (simp only [LN, e3]; omega)) ?_) | (with_reducible refine And.intro (by first | decide | omega | assumption | (simp only [LN, e3]; omega)) ?_) | ((with_reducible apply callK_pure); (exact cg)) | ((with_reducible apply callF_lend); (exact cg); rfl) | ((with_reducible apply callF_go); (exact cg)) | ((with_reducible show pickE _ _ _); first | refine pickE_intro _ ⟨by omega, by rfl⟩ ?_ | refine pickE_intro _ (by rfl) ?_) | fail); try simp -dsimp -implicitDefEqProofs (maxSteps := 1000000) (disch := first | omega | (simp only [LN, e3]; omega)) only [go_sem, Int.reduceToNat, Int.reducePow, Nat.reducePow, Int.reduceAdd, Int.reduceMul, Int.reduceSub, Int.reduceNeg, Nat.reduceAdd, Nat.reduceMul, Nat.reduceSub, Nat.reduceEqDiff, Nat.reduceLT, Nat.reduceLeDiff, e3])
      | fail)
    all_goals first | rfl | omega | trace_state
end Go.Proofs.YtlkffmmgcoiniaaDoor
