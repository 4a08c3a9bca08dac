/- Contracts of functions of this program, and the plain facts that they rest on. No conditions. -/
import Derived.Test.YtlkffmmgcoiniaaDoorD20
set_option linter.unusedSimpArgs false
set_option linter.unusedVariables false
namespace Go.Proofs.YtlkffmmgcoiniaaDoor
open Go Go.Ab
attribute [local irreducible] callK callF loopQ vstep vskip pickE hideP
set_option maxRecDepth 100000
attribute [local go_sem] eF rF eS eP eX rX eQ eL eN eW
theorem r_frz {P : Program} {nb : Nat} {Q : Exit → ASt → Prop} {s : ASt} {c : Code} (keep : List Nat) (vs : Nat → List (Nat × AV)) (h : ∀ I, hdS nb s keep vs (fun _ => []) [] = I → wkAll nb s I (sgOf nb s I.t I.L) ∧ awp P nb c Q I) : awp P nb c Q s :=
  r_weak (wk_auto (h _ rfl).1) (h _ rfl).2
/-- An access. -/
structure Acc where
  nm : List UInt8
  i : Int
  v : Nat
  own : Int
def eA (a : Acc) : PV := .agg [.v (.string (bs a.nm)), .v (.int .i64 a.i), .v (.int .u64 a.v), .v (.int .u8 a.own)]
attribute [local go_sem] eA
/-- The seeds. -/
def sdI (s : Int) : Nat → Int
  | 0 => s
  | k + 1 => IntKind.u64.wrap (IntKind.u64.wrap (sdI s k * 6364136223846793005) + 1442695040888963407)
def elI (s : Int) : Int := IntKind.u64.wrap ((BitVec.ofInt IntKind.u64.bits s ^^^ BitVec.ofInt IntKind.u64.bits (s / 536870912)).toNat : Int)
theorem sdI_0 (s : Int) : sdI s 0 = s := rfl
theorem sdI_s (s : Int) (k : Nat) : sdI s (k + 1) = IntKind.u64.wrap (IntKind.u64.wrap (sdI s k * 6364136223846793005) + 1442695040888963407) := rfl
def wsT (s : Int) (n k : Nat) : List Nat := (List.range k).map (fun j => (elI (sdI s (j + 1))).toNat) ++ List.replicate (n - k) 0
theorem wsT_len (s : Int) {n k : Nat} (h : k ≤ n) : (wsT s n k).length = n := by simp [wsT]; omega
theorem elI_ok (s : Int) : 0 ≤ elI s ∧ elI s < 18446744073709551616 := by unfold elI; rw [wr64]; omega
theorem wsT_0 (s : Int) (n : Nat) : wsT s n 0 = List.replicate n 0 := by simp [wsT]
theorem map_rep (n : Nat) : (List.replicate n 0).map eW = List.replicate n (.v (.int .u64 0)) := by rw [List.map_replicate]; rfl
theorem wsT_set (s : Int) {n k : Nat} (h : k < n) : (wsT s n k).set k (elI (sdI s (k + 1))).toNat = wsT s n (k + 1) := by
  unfold wsT
  obtain ⟨m, hm⟩ : ∃ m, n - k = m + 1 := ⟨n - k - 1, by omega⟩
  rw [List.set_append_right _ _ (by simp), hm, List.replicate_succ, List.length_map, List.length_range, Nat.sub_self, List.set_cons_zero, List.range_succ, List.map_append, List.append_assoc, show n - (k + 1) = m by omega]
  rfl
theorem wsT_setE (s : Int) {n k : Nat} (h : k < n) : ((wsT s n k).map eW).set k (.v (.int .u64 (elI (sdI s (k + 1))))) = (wsT s n (k + 1)).map eW := by
  rw [← wsT_set s h, List.map_set]
  have := elI_ok (sdI s (k + 1))
  show _ = ((wsT s n k).map eW).set k (.v (.int .u64 (((elI (sdI s (k + 1))).toNat : Nat) : Int)))
  rw [Int.toNat_of_nonneg this.1]
theorem wsT_setX (s : Int) {n k : Nat} (h : k < n) : ((wsT s n k).map eW).set k (.v (.int .u64 (IntKind.u64.wrap ((BitVec.ofInt IntKind.u64.bits (IntKind.u64.wrap (IntKind.u64.wrap (sdI s k * 6364136223846793005) + 1442695040888963407)) ^^^ BitVec.ofInt IntKind.u64.bits (IntKind.u64.wrap (IntKind.u64.wrap (sdI s k * 6364136223846793005) + 1442695040888963407) / 536870912)).toNat : Int)))) = (wsT s n (k + 1)).map eW := wsT_setE s h
theorem wsT_u (s : Int) (n k : Nat) : U64 (wsT s n k) := by
  intro i
  unfold wsT
  rw [List.getD_eq_getElem?_getD, List.getElem?_append]
  split
  · rw [List.getElem?_map]
    cases h : (List.range k)[i]? with
    | none => exact (show (0 : Nat) < _ by decide)
    | some j => have := elI_ok (sdI s (j + 1)); show (elI _).toNat < _; omega
  · rw [List.getElem?_replicate]; split <;> exact (show (0 : Nat) < _ by decide)
theorem setR_len (x : X) (ws : List Nat) (nm : List UInt8) (i : Int) (v : Nat) : (setR x ws nm i v).1.length ≤ ws.length := by
  unfold setR
  split
  · exact Nat.zero_le _
  · split
    · exact Nat.zero_le _
    · split
      · exact Nat.zero_le _
      · split
        · exact Nat.zero_le _
        · simp
attribute [local irreducible] slotAt posE wdE wordsM getB setB mskN plAt wsT elI sdI getR setR
set_option maxRecDepth 100000 in
set_option maxHeartbeats 4000000 in
theorem c8 (x : X) (hr : Rd x) (s : Int) (hs : 0 ≤ s ∧ s ≤ 18446744073709551615) (a : Acc) (ha : -9223372036854775808 ≤ a.i ∧ a.i ≤ 9223372036854775807) (hv : a.v < 18446744073709551616) (ho : 0 ≤ a.own ∧ a.own ≤ 255) : PCalls Tryd.prog 8 [eX x, .v (.int .u64 s), eA a] (.v (.bool true)) := by
  refine pcalls_of (E := E) (fn := Tryd.f8) 164 [.tmp 6] rfl rfl rfl rfl (by decide) rfl ?_
  have hlen := hr.len
  by_cases hg : greatM x = true ∨ 100 < a.nm.length
  · by_cases hgx : greatM x = true
    · repeat' (first
        | (with_reducible first | refine r_seq ?_ | refine r_block ?_ | refine fork_not ?_ | refine fork_and ?_ | refine fork_or ?_ | refine chk_ok (by kernel_rfl) ?_)
        | ((with_reducible first | refine fork_dec ?_ ?_ | refine fork_eq ?_ ?_ | refine fork_ne ?_ ?_ | refine fork_intro ?_ ?_) <;> intro h <;> try (exfalso; first | omega | exact h rfl | (revert h; decide) | (cases h; done)))
        | ((with_reducible show False); omega)
        | ((first | (with_reducible first | refine r_exit ?_ | refine r_skip ?_ | refine r_cond ?_ | refine r_region ?_ | show VX _ _ _ _ _ _ _ | show vstep _ _ _ _ _ | show vskip _ _ _ | show withV _ _) | ((with_reducible show endA _ _ _ _ _ _ _); simp -implicitDefEqProofs only [endA])); simp -dsimp -implicitDefEqProofs (maxSteps := 1000000) (disch := first | omega | (simp only [LN, hgx]; omega)) only [go_sem, Int.reduceToNat, Int.reducePow, Nat.reducePow, Int.reduceAdd, Int.reduceMul, Int.reduceSub, Int.reduceNeg, Nat.reduceAdd, Nat.reduceMul, Nat.reduceSub, Nat.reduceEqDiff, Nat.reduceLT, Nat.reduceLeDiff, hgx])
        | ((first | (with_reducible refine r_ret ?_) | (with_reducible refine pick_viewG default (by first | omega | (simp only [LN, hgx]; omega)) (by first | omega | (simp only [LN, hgx]; omega)) ?_) | (with_reducible refine pick_own default (by first | omega | (simp only [LN, hgx]; omega)) ?_) | (with_reducible refine And.intro (by first | decide | omega | assumption | (simp only [LN, hgx]; omega)) ?_) | ((with_reducible apply callK_pure); (first | exact c12 | exact c13 x hlen | fail)) | ((with_reducible apply callF_lend); (first | exact c12 | exact c13 x hlen | fail); rfl) | ((with_reducible apply callF_go); (first | exact c12 | exact c13 x hlen | fail)) | ((with_reducible show pickE _ _ _); first | refine pickE_intro _ ⟨by omega, by rfl⟩ ?_ | refine pickE_intro _ (by rfl) ?_) | fail); try simp -dsimp -implicitDefEqProofs (maxSteps := 1000000) (disch := first | omega | (simp only [LN, hgx]; omega)) only [go_sem, Int.reduceToNat, Int.reducePow, Nat.reducePow, Int.reduceAdd, Int.reduceMul, Int.reduceSub, Int.reduceNeg, Nat.reduceAdd, Nat.reduceMul, Nat.reduceSub, Nat.reduceEqDiff, Nat.reduceLT, Nat.reduceLeDiff, hgx])
        | fail)
      all_goals first | rfl | omega | (simp; done) | trace_state
    · have hgx : greatM x = false := by simpa using hgx
      have h100 : 100 < a.nm.length := by rcases hg with h | h; rw [hgx] at h; cases h; exact h
      repeat' (first
        | (with_reducible first | refine r_seq ?_ | refine r_block ?_ | refine fork_not ?_ | refine fork_and ?_ | refine fork_or ?_ | refine chk_ok (by kernel_rfl) ?_)
        | ((with_reducible first | refine fork_dec ?_ ?_ | refine fork_eq ?_ ?_ | refine fork_ne ?_ ?_ | refine fork_intro ?_ ?_) <;> intro h <;> try (exfalso; first | omega | exact h rfl | (revert h; decide) | (cases h; done)))
        | ((with_reducible show False); omega)
        | ((first | (with_reducible first | refine r_exit ?_ | refine r_skip ?_ | refine r_cond ?_ | refine r_region ?_ | show VX _ _ _ _ _ _ _ | show vstep _ _ _ _ _ | show vskip _ _ _ | show withV _ _) | ((with_reducible show endA _ _ _ _ _ _ _); simp -implicitDefEqProofs only [endA])); simp -dsimp -implicitDefEqProofs (maxSteps := 1000000) (disch := first | omega | (simp only [LN, hgx]; omega)) only [go_sem, Int.reduceToNat, Int.reducePow, Nat.reducePow, Int.reduceAdd, Int.reduceMul, Int.reduceSub, Int.reduceNeg, Nat.reduceAdd, Nat.reduceMul, Nat.reduceSub, Nat.reduceEqDiff, Nat.reduceLT, Nat.reduceLeDiff, hgx])
        | ((first | (with_reducible refine r_ret ?_) | (with_reducible refine pick_viewG default (by first | omega | (simp only [LN, hgx]; omega)) (by first | omega | (simp only [LN, hgx]; omega)) ?_) | (with_reducible refine pick_own default (by first | omega | (simp only [LN, hgx]; omega)) ?_) | (with_reducible refine And.intro (by first | decide | omega | assumption | (simp only [LN, hgx]; omega)) ?_) | ((with_reducible apply callK_pure); (first | exact c12 | exact c13 x hlen | fail)) | ((with_reducible apply callF_lend); (first | exact c12 | exact c13 x hlen | fail); rfl) | ((with_reducible apply callF_go); (first | exact c12 | exact c13 x hlen | fail)) | ((with_reducible show pickE _ _ _); first | refine pickE_intro _ ⟨by omega, by rfl⟩ ?_ | refine pickE_intro _ (by rfl) ?_) | fail); try simp -dsimp -implicitDefEqProofs (maxSteps := 1000000) (disch := first | omega | (simp only [LN, hgx]; omega)) only [go_sem, Int.reduceToNat, Int.reducePow, Nat.reducePow, Int.reduceAdd, Int.reduceMul, Int.reduceSub, Int.reduceNeg, Nat.reduceAdd, Nat.reduceMul, Nat.reduceSub, Nat.reduceEqDiff, Nat.reduceLT, Nat.reduceLeDiff, hgx])
        | fail)
      all_goals first | rfl | omega | (simp; done) | trace_state
  · have hgx : greatM x = false := by cases h : greatM x with | true => exact absurd (.inl h) hg | false => rfl
    obtain ⟨g1, g2, g3⟩ := greatM_f hgx
    by_cases he : newE x = 0
    · have G := good_of he
      have hlay := G.lay
      have hsl := slotsTo_len x.fs x.fs.length
      have hbig : wordsM x ≤ 60 := by have := G.fit; unfold wordsM; omega
      have hwp := words_pos x
      have hxl : 0 < x.fs.length := by have := G.arg; omega
      by_cases hown : a.own % 8 = 1
      · have hdummy := hwp
        have hlk : ∀ k, k ≤ wordsM x + 1 → (wsT s (wordsM x + 1) k).length = wordsM x + 1 := fun k hk => wsT_len s hk
        repeat' (first
          | (with_reducible first | refine r_seq ?_ | refine r_block ?_ | refine fork_not ?_ | refine fork_and ?_ | refine fork_or ?_ | refine chk_ok (by kernel_rfl) ?_)
          | ((with_reducible first | refine fork_dec ?_ ?_ | refine fork_eq ?_ ?_ | refine fork_ne ?_ ?_ | refine fork_intro ?_ ?_) <;> intro h <;> try (exfalso; first | omega | exact h rfl | (revert h; decide) | (cases h; done)))
          | ((with_reducible show False); omega)
          | ((first | (with_reducible first | refine r_exit ?_ | refine r_skip ?_ | refine r_cond ?_ | refine r_region ?_ | show VX _ _ _ _ _ _ _ | show vstep _ _ _ _ _ | show vskip _ _ _ | show withV _ _) | ((with_reducible show endA _ _ _ _ _ _ _); simp -implicitDefEqProofs only [endA])); simp -dsimp -implicitDefEqProofs (maxSteps := 1000000) (disch := first | omega | (simp only [LN, hgx, he, hlay, hsl, tmod_nn]; omega)) only [go_sem, Int.reduceToNat, Int.reducePow, Nat.reducePow, Int.reduceAdd, Int.reduceMul, Int.reduceSub, Int.reduceNeg, Nat.reduceAdd, Nat.reduceMul, Nat.reduceSub, Nat.reduceEqDiff, Nat.reduceLT, Nat.reduceLeDiff, hgx, he, hlay, hsl, tmod_nn])
          | ((first | (with_reducible refine r_ret ?_) | (with_reducible refine pick_viewG default (by first | omega | (simp only [LN, hgx, he, hlay, hsl, tmod_nn]; omega)) (by first | omega | (simp only [LN, hgx, he, hlay, hsl, tmod_nn]; omega)) ?_) | (with_reducible refine pick_own default (by first | omega | (simp only [LN, hgx, he, hlay, hsl, tmod_nn]; omega)) ?_) | (with_reducible refine And.intro (by first | decide | omega | assumption | (simp only [LN, hgx, he, hlay, hsl, tmod_nn]; omega)) ?_) | ((with_reducible apply callK_pure); (first | exact c12 | exact c13 x hlen | exact c14 x (by omega) hr.ty | exact c16 x (by omega) hr.ty | exact c23g G g1 | fail)) | ((with_reducible apply callF_lend); (first | exact c12 | exact c13 x hlen | exact c14 x (by omega) hr.ty | exact c16 x (by omega) hr.ty | exact c23g G g1 | fail); rfl) | ((with_reducible apply callF_go); (first | exact c12 | exact c13 x hlen | exact c14 x (by omega) hr.ty | exact c16 x (by omega) hr.ty | exact c23g G g1 | fail)) | ((with_reducible show pickE _ _ _); first | refine pickE_intro _ ⟨by omega, by rfl⟩ ?_ | refine pickE_intro _ (by rfl) ?_) | fail); try simp -dsimp -implicitDefEqProofs (maxSteps := 1000000) (disch := first | omega | (simp only [LN, hgx, he, hlay, hsl, tmod_nn]; omega)) only [go_sem, Int.reduceToNat, Int.reducePow, Nat.reducePow, Int.reduceAdd, Int.reduceMul, Int.reduceSub, Int.reduceNeg, Nat.reduceAdd, Nat.reduceMul, Nat.reduceSub, Nat.reduceEqDiff, Nat.reduceLT, Nat.reduceLeDiff, hgx, he, hlay, hsl, tmod_nn])
          | fail)
        all_goals try omega
        refine r_loopA (α := Nat) [3, 5, 7, 9, 11, 65] (fun k b => [(1, .p (.v (.int .u64 (sdI s k)))), (66, aI k)]) (fun k b => [(11, .arr 1 ((wsT s (wordsM x + 1) k).map eW))]) (fun k => []) (fun k => k ≤ wordsM x + 1) (fun k => wordsM x + 1 - k) (0) ?h0_1 ?hs0_1 ?I_1 ?hI_1 ?round_1
        case hI_1 => intro x; (simp -dsimp -implicitDefEqProofs (maxSteps := 1000000) (disch := first | omega | (simp only [LN]; omega)) only [go_sem, Int.reduceToNat, Int.reducePow, Nat.reducePow, Int.reduceAdd, Int.reduceMul, Int.reduceSub, Int.reduceNeg, Nat.reduceAdd, Nat.reduceMul, Nat.reduceSub, Nat.reduceEqDiff, Nat.reduceLT, Nat.reduceLeDiff]) <;> exact rfl
        case hs0_1 => refine wk_auto ?_; (simp -dsimp -implicitDefEqProofs (maxSteps := 1000000) (disch := first | omega | (simp only [LN, wsT_0, map_rep, sdI_0]; omega)) only [go_sem, Int.reduceToNat, Int.reducePow, Nat.reducePow, Int.reduceAdd, Int.reduceMul, Int.reduceSub, Int.reduceNeg, Nat.reduceAdd, Nat.reduceMul, Nat.reduceSub, Nat.reduceEqDiff, Nat.reduceLT, Nat.reduceLeDiff, wsT_0, map_rep, sdI_0]) <;> (try omega)
        case h0_1 => exact Nat.zero_le _
        case round_1 =>
          intro k hk
          have hlk1 := hlk k hk
          by_cases hk2 : k < wordsM x + 1
          · have hst := wsT_setX s hk2
            repeat' (first
              | (with_reducible first | refine r_seq ?_ | refine r_block ?_ | refine fork_not ?_ | refine fork_and ?_ | refine fork_or ?_ | refine chk_ok (by kernel_rfl) ?_)
              | ((with_reducible first | refine fork_dec ?_ ?_ | refine fork_eq ?_ ?_ | refine fork_ne ?_ ?_ | refine fork_intro ?_ ?_) <;> intro h <;> try (exfalso; first | omega | exact h rfl | (revert h; decide) | (cases h; done)))
              | ((with_reducible show False); omega)
              | ((first | (with_reducible first | refine r_exit ?_ | refine r_skip ?_ | refine r_cond ?_ | refine r_region ?_ | show VX _ _ _ _ _ _ _ | show vstep _ _ _ _ _ | show vskip _ _ _ | show withV _ _) | ((with_reducible show endA _ _ _ _ _ _ _); simp -implicitDefEqProofs only [endA])); simp -dsimp -implicitDefEqProofs (maxSteps := 1000000) (disch := first | omega | (simp only [LN, hlk1]; omega)) only [go_sem, Int.reduceToNat, Int.reducePow, Nat.reducePow, Int.reduceAdd, Int.reduceMul, Int.reduceSub, Int.reduceNeg, Nat.reduceAdd, Nat.reduceMul, Nat.reduceSub, Nat.reduceEqDiff, Nat.reduceLT, Nat.reduceLeDiff, hlk1])
              | ((first | (with_reducible refine r_ret ?_) | (with_reducible refine pick_viewG default (by first | omega | (simp only [LN, hlk1]; omega)) (by first | omega | (simp only [LN, hlk1]; omega)) ?_) | (with_reducible refine pick_own default (by first | omega | (simp only [LN, hlk1]; omega)) ?_) | (with_reducible refine And.intro (by first | decide | omega | assumption | (simp only [LN, hlk1]; omega)) ?_) | ((with_reducible show pickE _ _ _); first | refine pickE_intro _ ⟨by omega, by rfl⟩ ?_ | refine pickE_intro _ (by rfl) ?_) | fail); try simp -dsimp -implicitDefEqProofs (maxSteps := 1000000) (disch := first | omega | (simp only [LN, hlk1]; omega)) only [go_sem, Int.reduceToNat, Int.reducePow, Nat.reducePow, Int.reduceAdd, Int.reduceMul, Int.reduceSub, Int.reduceNeg, Nat.reduceAdd, Nat.reduceMul, Nat.reduceSub, Nat.reduceEqDiff, Nat.reduceLT, Nat.reduceLeDiff, hlk1])
              | fail)
            all_goals first | omega | (refine loopQ_next (k + 1) ?_ ?_ ?_; (omega); (show _ < _; omega); (simp -dsimp -implicitDefEqProofs (maxSteps := 1000000) (disch := first | omega | (simp only [LN, hst, sdI_s]; omega)) only [go_sem, Int.reduceToNat, Int.reducePow, Nat.reducePow, Int.reduceAdd, Int.reduceMul, Int.reduceSub, Int.reduceNeg, Nat.reduceAdd, Nat.reduceMul, Nat.reduceSub, Nat.reduceEqDiff, Nat.reduceLT, Nat.reduceLeDiff, hst, sdI_s]; try trivial)) | trace_state
          · obtain rfl : k = wordsM x + 1 := by omega
            have hu := wsT_u s (wordsM x + 1) (wordsM x + 1)
            generalize wsT s (wordsM x + 1) (wordsM x + 1) = ws at hu hlk1
            have htk : ws.take (wordsM x + 1) = ws := List.take_of_length_le (by omega)
            refine r_frz [1, 3, 5, 7, 9, 65, 66] (fun b => [(11, .p (.view 1 (ws.map eW)))]) fun I hI => ?_
            simp -dsimp -implicitDefEqProofs (maxSteps := 1000000) (disch := first | omega | (simp only [LN]; omega)) only [go_sem, Int.reduceToNat, Int.reducePow, Nat.reducePow, Int.reduceAdd, Int.reduceMul, Int.reduceSub, Int.reduceNeg, Nat.reduceAdd, Nat.reduceMul, Nat.reduceSub, Nat.reduceEqDiff, Nat.reduceLT, Nat.reduceLeDiff] at hI
            subst hI
            refine And.intro ?_ ?_
            · (simp -dsimp -implicitDefEqProofs (maxSteps := 1000000) (disch := first | omega | (simp only [LN, hlk1, htk]; omega)) only [go_sem, Int.reduceToNat, Int.reducePow, Nat.reducePow, Int.reduceAdd, Int.reduceMul, Int.reduceSub, Int.reduceNeg, Nat.reduceAdd, Nat.reduceMul, Nat.reduceSub, Nat.reduceEqDiff, Nat.reduceLT, Nat.reduceLeDiff, hlk1, htk]) <;> (try omega)
            by_cases hnm : 2 < a.own % 8
            · exfalso; omega
            · have hsr := setR_len x ws a.nm a.i a.v
              repeat' ((fail_if_success (with_reducible show awp _ _ (Code.region 21 _ _) _ _)); first
                | (with_reducible first | refine r_seq ?_ | refine r_block ?_ | refine fork_not ?_ | refine fork_and ?_ | refine fork_or ?_ | refine chk_ok (by kernel_rfl) ?_)
                | ((with_reducible first | refine fork_dec ?_ ?_ | refine fork_eq ?_ ?_ | refine fork_ne ?_ ?_ | refine fork_intro ?_ ?_) <;> intro h <;> try (exfalso; first | omega | exact h rfl | (revert h; decide) | (cases h; done)))
                | ((with_reducible show False); omega)
                | ((first | (with_reducible first | refine r_exit ?_ | refine r_skip ?_ | refine r_cond ?_ | refine r_region ?_ | show VX _ _ _ _ _ _ _ | show vstep _ _ _ _ _ | show vskip _ _ _ | show withV _ _) | ((with_reducible show endA _ _ _ _ _ _ _); simp -implicitDefEqProofs only [endA])); simp -dsimp -implicitDefEqProofs (maxSteps := 1000000) (disch := first | omega | (simp only [LN, hlk1, tmod_nn]; omega)) only [go_sem, Int.reduceToNat, Int.reducePow, Nat.reducePow, Int.reduceAdd, Int.reduceMul, Int.reduceSub, Int.reduceNeg, Nat.reduceAdd, Nat.reduceMul, Nat.reduceSub, Nat.reduceEqDiff, Nat.reduceLT, Nat.reduceLeDiff, hlk1, tmod_nn])
                | ((first | (with_reducible refine r_ret ?_) | (with_reducible refine pick_viewG default (by first | omega | (simp only [LN, hlk1, tmod_nn]; omega)) (by first | omega | (simp only [LN, hlk1, tmod_nn]; omega)) ?_) | (with_reducible refine pick_own default (by first | omega | (simp only [LN, hlk1, tmod_nn]; omega)) ?_) | (with_reducible refine And.intro (by first | decide | omega | assumption | (simp only [LN, hlk1, tmod_nn]; omega)) ?_) | ((with_reducible show pickE _ _ _); first | refine pickE_intro _ ⟨by omega, by rfl⟩ ?_ | refine pickE_intro _ (by rfl) ?_) | fail); try simp -dsimp -implicitDefEqProofs (maxSteps := 1000000) (disch := first | omega | (simp only [LN, hlk1, tmod_nn]; omega)) only [go_sem, Int.reduceToNat, Int.reducePow, Nat.reducePow, Int.reduceAdd, Int.reduceMul, Int.reduceSub, Int.reduceNeg, Nat.reduceAdd, Nat.reduceMul, Nat.reduceSub, Nat.reduceEqDiff, Nat.reduceLT, Nat.reduceLeDiff, hlk1, tmod_nn])
                | fail)
              all_goals try omega
              refine r_frz [5, 7, 9, 11, 14] (fun b => [(13, .p (.view 1 (ws.map eW)))]) fun I hI => ?_
              simp -dsimp -implicitDefEqProofs (maxSteps := 1000000) (disch := first | omega | (simp only [LN]; omega)) only [go_sem, Int.reduceToNat, Int.reducePow, Nat.reducePow, Int.reduceAdd, Int.reduceMul, Int.reduceSub, Int.reduceNeg, Nat.reduceAdd, Nat.reduceMul, Nat.reduceSub, Nat.reduceEqDiff, Nat.reduceLT, Nat.reduceLeDiff] at hI
              subst hI
              refine And.intro ?_ ?_
              · (simp -dsimp -implicitDefEqProofs (maxSteps := 1000000) (disch := first | omega | (simp only [LN, hlk1, htk]; omega)) only [go_sem, Int.reduceToNat, Int.reducePow, Nat.reducePow, Int.reduceAdd, Int.reduceMul, Int.reduceSub, Int.reduceNeg, Nat.reduceAdd, Nat.reduceMul, Nat.reduceSub, Nat.reduceEqDiff, Nat.reduceLT, Nat.reduceLeDiff, hlk1, htk]) <;> (try omega)
              repeat' (first
                | (with_reducible first | refine r_seq ?_ | refine r_block ?_ | refine fork_not ?_ | refine fork_and ?_ | refine fork_or ?_ | refine chk_ok (by kernel_rfl) ?_)
                | ((with_reducible first | refine fork_dec ?_ ?_ | refine fork_eq ?_ ?_ | refine fork_ne ?_ ?_ | refine fork_intro ?_ ?_) <;> intro h <;> try (exfalso; first | omega | exact h rfl | (revert h; decide) | (cases h; done)))
                | ((with_reducible show False); omega)
                | ((first | (with_reducible first | refine r_exit ?_ | refine r_skip ?_ | refine r_cond ?_ | refine r_region ?_ | show VX _ _ _ _ _ _ _ | show vstep _ _ _ _ _ | show vskip _ _ _ | show withV _ _) | ((with_reducible show endA _ _ _ _ _ _ _); simp -implicitDefEqProofs only [endA])); simp -dsimp -implicitDefEqProofs (maxSteps := 1000000) (disch := first | omega | (simp only [LN, hlk1, tmod_nn]; omega)) only [go_sem, Int.reduceToNat, Int.reducePow, Nat.reducePow, Int.reduceAdd, Int.reduceMul, Int.reduceSub, Int.reduceNeg, Nat.reduceAdd, Nat.reduceMul, Nat.reduceSub, Nat.reduceEqDiff, Nat.reduceLT, Nat.reduceLeDiff, hlk1, tmod_nn])
                | ((first | (with_reducible refine r_ret ?_) | (with_reducible refine pick_viewG default (by first | omega | (simp only [LN, hlk1, tmod_nn]; omega)) (by first | omega | (simp only [LN, hlk1, tmod_nn]; omega)) ?_) | (with_reducible refine pick_own default (by first | omega | (simp only [LN, hlk1, tmod_nn]; omega)) ?_) | (with_reducible refine And.intro (by first | decide | omega | assumption | (simp only [LN, hlk1, tmod_nn]; omega)) ?_) | ((with_reducible apply callK_pure); (first | exact c28 x G g1 ws hu _ _ | exact c30 x G g1 ws hu _ _ | exact c29 x G g1 ws hu _ _ _ hv | exact c31 x G g1 ws hu _ _ _ hv | exact c27 _ (by omega) | fail)) | ((with_reducible apply callF_lend); (first | exact c28 x G g1 ws hu _ _ | exact c30 x G g1 ws hu _ _ | exact c29 x G g1 ws hu _ _ _ hv | exact c31 x G g1 ws hu _ _ _ hv | exact c27 _ (by omega) | fail); rfl) | ((with_reducible apply callF_go); (first | exact c28 x G g1 ws hu _ _ | exact c30 x G g1 ws hu _ _ | exact c29 x G g1 ws hu _ _ _ hv | exact c31 x G g1 ws hu _ _ _ hv | exact c27 _ (by omega) | fail)) | ((with_reducible show pickE _ _ _); first | refine pickE_intro _ ⟨by omega, by rfl⟩ ?_ | refine pickE_intro _ (by rfl) ?_) | fail); try simp -dsimp -implicitDefEqProofs (maxSteps := 1000000) (disch := first | omega | (simp only [LN, hlk1, tmod_nn]; omega)) only [go_sem, Int.reduceToNat, Int.reducePow, Nat.reducePow, Int.reduceAdd, Int.reduceMul, Int.reduceSub, Int.reduceNeg, Nat.reduceAdd, Nat.reduceMul, Nat.reduceSub, Nat.reduceEqDiff, Nat.reduceLT, Nat.reduceLeDiff, hlk1, tmod_nn])
                | fail)
              all_goals first | rfl | omega | (simp; done) | trace_state
      · have hdummy := hwp
        have hlk : ∀ k, k ≤ wordsM x → (wsT s (wordsM x) k).length = wordsM x := fun k hk => wsT_len s hk
        repeat' (first
          | (with_reducible first | refine r_seq ?_ | refine r_block ?_ | refine fork_not ?_ | refine fork_and ?_ | refine fork_or ?_ | refine chk_ok (by kernel_rfl) ?_)
          | ((with_reducible first | refine fork_dec ?_ ?_ | refine fork_eq ?_ ?_ | refine fork_ne ?_ ?_ | refine fork_intro ?_ ?_) <;> intro h <;> try (exfalso; first | omega | exact h rfl | (revert h; decide) | (cases h; done)))
          | ((with_reducible show False); omega)
          | ((first | (with_reducible first | refine r_exit ?_ | refine r_skip ?_ | refine r_cond ?_ | refine r_region ?_ | show VX _ _ _ _ _ _ _ | show vstep _ _ _ _ _ | show vskip _ _ _ | show withV _ _) | ((with_reducible show endA _ _ _ _ _ _ _); simp -implicitDefEqProofs only [endA])); simp -dsimp -implicitDefEqProofs (maxSteps := 1000000) (disch := first | omega | (simp only [LN, hgx, he, hlay, hsl, tmod_nn]; omega)) only [go_sem, Int.reduceToNat, Int.reducePow, Nat.reducePow, Int.reduceAdd, Int.reduceMul, Int.reduceSub, Int.reduceNeg, Nat.reduceAdd, Nat.reduceMul, Nat.reduceSub, Nat.reduceEqDiff, Nat.reduceLT, Nat.reduceLeDiff, hgx, he, hlay, hsl, tmod_nn])
          | ((first | (with_reducible refine r_ret ?_) | (with_reducible refine pick_viewG default (by first | omega | (simp only [LN, hgx, he, hlay, hsl, tmod_nn]; omega)) (by first | omega | (simp only [LN, hgx, he, hlay, hsl, tmod_nn]; omega)) ?_) | (with_reducible refine pick_own default (by first | omega | (simp only [LN, hgx, he, hlay, hsl, tmod_nn]; omega)) ?_) | (with_reducible refine And.intro (by first | decide | omega | assumption | (simp only [LN, hgx, he, hlay, hsl, tmod_nn]; omega)) ?_) | ((with_reducible apply callK_pure); (first | exact c12 | exact c13 x hlen | exact c14 x (by omega) hr.ty | exact c16 x (by omega) hr.ty | exact c23g G g1 | fail)) | ((with_reducible apply callF_lend); (first | exact c12 | exact c13 x hlen | exact c14 x (by omega) hr.ty | exact c16 x (by omega) hr.ty | exact c23g G g1 | fail); rfl) | ((with_reducible apply callF_go); (first | exact c12 | exact c13 x hlen | exact c14 x (by omega) hr.ty | exact c16 x (by omega) hr.ty | exact c23g G g1 | fail)) | ((with_reducible show pickE _ _ _); first | refine pickE_intro _ ⟨by omega, by rfl⟩ ?_ | refine pickE_intro _ (by rfl) ?_) | fail); try simp -dsimp -implicitDefEqProofs (maxSteps := 1000000) (disch := first | omega | (simp only [LN, hgx, he, hlay, hsl, tmod_nn]; omega)) only [go_sem, Int.reduceToNat, Int.reducePow, Nat.reducePow, Int.reduceAdd, Int.reduceMul, Int.reduceSub, Int.reduceNeg, Nat.reduceAdd, Nat.reduceMul, Nat.reduceSub, Nat.reduceEqDiff, Nat.reduceLT, Nat.reduceLeDiff, hgx, he, hlay, hsl, tmod_nn])
          | fail)
        all_goals try omega
        refine r_loopA (α := Nat) [3, 5, 7, 9, 11, 65] (fun k b => [(1, .p (.v (.int .u64 (sdI s k)))), (66, aI k)]) (fun k b => [(11, .arr 1 ((wsT s (wordsM x) k).map eW))]) (fun k => []) (fun k => k ≤ wordsM x) (fun k => wordsM x - k) (0) ?h0_2 ?hs0_2 ?I_2 ?hI_2 ?round_2
        case hI_2 => intro x; (simp -dsimp -implicitDefEqProofs (maxSteps := 1000000) (disch := first | omega | (simp only [LN]; omega)) only [go_sem, Int.reduceToNat, Int.reducePow, Nat.reducePow, Int.reduceAdd, Int.reduceMul, Int.reduceSub, Int.reduceNeg, Nat.reduceAdd, Nat.reduceMul, Nat.reduceSub, Nat.reduceEqDiff, Nat.reduceLT, Nat.reduceLeDiff]) <;> exact rfl
        case hs0_2 => refine wk_auto ?_; (simp -dsimp -implicitDefEqProofs (maxSteps := 1000000) (disch := first | omega | (simp only [LN, wsT_0, map_rep, sdI_0]; omega)) only [go_sem, Int.reduceToNat, Int.reducePow, Nat.reducePow, Int.reduceAdd, Int.reduceMul, Int.reduceSub, Int.reduceNeg, Nat.reduceAdd, Nat.reduceMul, Nat.reduceSub, Nat.reduceEqDiff, Nat.reduceLT, Nat.reduceLeDiff, wsT_0, map_rep, sdI_0]) <;> (try omega)
        case h0_2 => exact Nat.zero_le _
        case round_2 =>
          intro k hk
          have hlk1 := hlk k hk
          by_cases hk2 : k < wordsM x
          · have hst := wsT_setX s hk2
            repeat' (first
              | (with_reducible first | refine r_seq ?_ | refine r_block ?_ | refine fork_not ?_ | refine fork_and ?_ | refine fork_or ?_ | refine chk_ok (by kernel_rfl) ?_)
              | ((with_reducible first | refine fork_dec ?_ ?_ | refine fork_eq ?_ ?_ | refine fork_ne ?_ ?_ | refine fork_intro ?_ ?_) <;> intro h <;> try (exfalso; first | omega | exact h rfl | (revert h; decide) | (cases h; done)))
              | ((with_reducible show False); omega)
              | ((first | (with_reducible first | refine r_exit ?_ | refine r_skip ?_ | refine r_cond ?_ | refine r_region ?_ | show VX _ _ _ _ _ _ _ | show vstep _ _ _ _ _ | show vskip _ _ _ | show withV _ _) | ((with_reducible show endA _ _ _ _ _ _ _); simp -implicitDefEqProofs only [endA])); simp -dsimp -implicitDefEqProofs (maxSteps := 1000000) (disch := first | omega | (simp only [LN, hlk1]; omega)) only [go_sem, Int.reduceToNat, Int.reducePow, Nat.reducePow, Int.reduceAdd, Int.reduceMul, Int.reduceSub, Int.reduceNeg, Nat.reduceAdd, Nat.reduceMul, Nat.reduceSub, Nat.reduceEqDiff, Nat.reduceLT, Nat.reduceLeDiff, hlk1])
              | ((first | (with_reducible refine r_ret ?_) | (with_reducible refine pick_viewG default (by first | omega | (simp only [LN, hlk1]; omega)) (by first | omega | (simp only [LN, hlk1]; omega)) ?_) | (with_reducible refine pick_own default (by first | omega | (simp only [LN, hlk1]; omega)) ?_) | (with_reducible refine And.intro (by first | decide | omega | assumption | (simp only [LN, hlk1]; omega)) ?_) | ((with_reducible show pickE _ _ _); first | refine pickE_intro _ ⟨by omega, by rfl⟩ ?_ | refine pickE_intro _ (by rfl) ?_) | fail); try simp -dsimp -implicitDefEqProofs (maxSteps := 1000000) (disch := first | omega | (simp only [LN, hlk1]; omega)) only [go_sem, Int.reduceToNat, Int.reducePow, Nat.reducePow, Int.reduceAdd, Int.reduceMul, Int.reduceSub, Int.reduceNeg, Nat.reduceAdd, Nat.reduceMul, Nat.reduceSub, Nat.reduceEqDiff, Nat.reduceLT, Nat.reduceLeDiff, hlk1])
              | fail)
            all_goals first | omega | (refine loopQ_next (k + 1) ?_ ?_ ?_; (omega); (show _ < _; omega); (simp -dsimp -implicitDefEqProofs (maxSteps := 1000000) (disch := first | omega | (simp only [LN, hst, sdI_s]; omega)) only [go_sem, Int.reduceToNat, Int.reducePow, Nat.reducePow, Int.reduceAdd, Int.reduceMul, Int.reduceSub, Int.reduceNeg, Nat.reduceAdd, Nat.reduceMul, Nat.reduceSub, Nat.reduceEqDiff, Nat.reduceLT, Nat.reduceLeDiff, hst, sdI_s]; try trivial)) | trace_state
          · obtain rfl : k = wordsM x := by omega
            have hu := wsT_u s (wordsM x) (wordsM x)
            generalize wsT s (wordsM x) (wordsM x) = ws at hu hlk1
            have htk : ws.take (wordsM x) = ws := List.take_of_length_le (by omega)
            refine r_frz [1, 3, 5, 7, 9, 65, 66] (fun b => [(11, .p (.view 1 (ws.map eW)))]) fun I hI => ?_
            simp -dsimp -implicitDefEqProofs (maxSteps := 1000000) (disch := first | omega | (simp only [LN]; omega)) only [go_sem, Int.reduceToNat, Int.reducePow, Nat.reducePow, Int.reduceAdd, Int.reduceMul, Int.reduceSub, Int.reduceNeg, Nat.reduceAdd, Nat.reduceMul, Nat.reduceSub, Nat.reduceEqDiff, Nat.reduceLT, Nat.reduceLeDiff] at hI
            subst hI
            refine And.intro ?_ ?_
            · (simp -dsimp -implicitDefEqProofs (maxSteps := 1000000) (disch := first | omega | (simp only [LN, hlk1, htk]; omega)) only [go_sem, Int.reduceToNat, Int.reducePow, Nat.reducePow, Int.reduceAdd, Int.reduceMul, Int.reduceSub, Int.reduceNeg, Nat.reduceAdd, Nat.reduceMul, Nat.reduceSub, Nat.reduceEqDiff, Nat.reduceLT, Nat.reduceLeDiff, hlk1, htk]) <;> (try omega)
            by_cases hnm : 2 < a.own % 8
            · have hq : (a.own / 8) % (x.fs.length : Int) < x.fs.length := Int.emod_lt_of_pos _ (by omega)
              have hq0 : 0 ≤ (a.own / 8) % (x.fs.length : Int) := Int.emod_nonneg _ (by omega)
              have hqe : (IntKind.i64.wrap (a.own.tdiv 8)).tmod (x.fs.length : Int) = (a.own / 8) % (x.fs.length : Int) := by
                rw [tdiv_nn ho.1, i64w (by omega) (by omega), tmod_nn (by omega)]
              obtain ⟨q, hqq⟩ := Int.eq_ofNat_of_zero_le hq0
              rw [hqq] at hq hqe
              have hqq := hqe
              have hsr := setR_len x ws (x.fs.getD q default).nm a.i a.v
              repeat' ((fail_if_success (with_reducible show awp _ _ (Code.region 21 _ _) _ _)); first
                | (with_reducible first | refine r_seq ?_ | refine r_block ?_ | refine fork_not ?_ | refine fork_and ?_ | refine fork_or ?_ | refine chk_ok (by kernel_rfl) ?_)
                | ((with_reducible first | refine fork_dec ?_ ?_ | refine fork_eq ?_ ?_ | refine fork_ne ?_ ?_ | refine fork_intro ?_ ?_) <;> intro h <;> try (exfalso; first | omega | exact h rfl | (revert h; decide) | (cases h; done)))
                | ((with_reducible show False); omega)
                | ((first | (with_reducible first | refine r_exit ?_ | refine r_skip ?_ | refine r_cond ?_ | refine r_region ?_ | show VX _ _ _ _ _ _ _ | show vstep _ _ _ _ _ | show vskip _ _ _ | show withV _ _) | ((with_reducible show endA _ _ _ _ _ _ _); simp -implicitDefEqProofs only [endA])); simp -dsimp -implicitDefEqProofs (maxSteps := 1000000) (disch := first | omega | (simp only [LN, hlk1, tmod_nn, hqq]; omega)) only [go_sem, Int.reduceToNat, Int.reducePow, Nat.reducePow, Int.reduceAdd, Int.reduceMul, Int.reduceSub, Int.reduceNeg, Nat.reduceAdd, Nat.reduceMul, Nat.reduceSub, Nat.reduceEqDiff, Nat.reduceLT, Nat.reduceLeDiff, hlk1, tmod_nn, hqq])
                | ((first | (with_reducible refine r_ret ?_) | (with_reducible refine pick_viewG default (by first | omega | (simp only [LN, hlk1, tmod_nn, hqq]; omega)) (by first | omega | (simp only [LN, hlk1, tmod_nn, hqq]; omega)) ?_) | (with_reducible refine pick_own default (by first | omega | (simp only [LN, hlk1, tmod_nn, hqq]; omega)) ?_) | (with_reducible refine And.intro (by first | decide | omega | assumption | (simp only [LN, hlk1, tmod_nn, hqq]; omega)) ?_) | ((with_reducible show pickE _ _ _); first | refine pickE_intro _ ⟨by omega, by rfl⟩ ?_ | refine pickE_intro _ (by rfl) ?_) | fail); try simp -dsimp -implicitDefEqProofs (maxSteps := 1000000) (disch := first | omega | (simp only [LN, hlk1, tmod_nn, hqq]; omega)) only [go_sem, Int.reduceToNat, Int.reducePow, Nat.reducePow, Int.reduceAdd, Int.reduceMul, Int.reduceSub, Int.reduceNeg, Nat.reduceAdd, Nat.reduceMul, Nat.reduceSub, Nat.reduceEqDiff, Nat.reduceLT, Nat.reduceLeDiff, hlk1, tmod_nn, hqq])
                | fail)
              all_goals try omega
              refine r_frz [5, 7, 9, 11, 14] (fun b => [(13, .p (.view 1 (ws.map eW)))]) fun I hI => ?_
              simp -dsimp -implicitDefEqProofs (maxSteps := 1000000) (disch := first | omega | (simp only [LN]; omega)) only [go_sem, Int.reduceToNat, Int.reducePow, Nat.reducePow, Int.reduceAdd, Int.reduceMul, Int.reduceSub, Int.reduceNeg, Nat.reduceAdd, Nat.reduceMul, Nat.reduceSub, Nat.reduceEqDiff, Nat.reduceLT, Nat.reduceLeDiff] at hI
              subst hI
              refine And.intro ?_ ?_
              · (simp -dsimp -implicitDefEqProofs (maxSteps := 1000000) (disch := first | omega | (simp only [LN, hlk1, htk]; omega)) only [go_sem, Int.reduceToNat, Int.reducePow, Nat.reducePow, Int.reduceAdd, Int.reduceMul, Int.reduceSub, Int.reduceNeg, Nat.reduceAdd, Nat.reduceMul, Nat.reduceSub, Nat.reduceEqDiff, Nat.reduceLT, Nat.reduceLeDiff, hlk1, htk]) <;> (try omega)
              repeat' (first
                | (with_reducible first | refine r_seq ?_ | refine r_block ?_ | refine fork_not ?_ | refine fork_and ?_ | refine fork_or ?_ | refine chk_ok (by kernel_rfl) ?_)
                | ((with_reducible first | refine fork_dec ?_ ?_ | refine fork_eq ?_ ?_ | refine fork_ne ?_ ?_ | refine fork_intro ?_ ?_) <;> intro h <;> try (exfalso; first | omega | exact h rfl | (revert h; decide) | (cases h; done)))
                | ((with_reducible show False); omega)
                | ((first | (with_reducible first | refine r_exit ?_ | refine r_skip ?_ | refine r_cond ?_ | refine r_region ?_ | show VX _ _ _ _ _ _ _ | show vstep _ _ _ _ _ | show vskip _ _ _ | show withV _ _) | ((with_reducible show endA _ _ _ _ _ _ _); simp -implicitDefEqProofs only [endA])); simp -dsimp -implicitDefEqProofs (maxSteps := 1000000) (disch := first | omega | (simp only [LN, hlk1, tmod_nn, hqq]; omega)) only [go_sem, Int.reduceToNat, Int.reducePow, Nat.reducePow, Int.reduceAdd, Int.reduceMul, Int.reduceSub, Int.reduceNeg, Nat.reduceAdd, Nat.reduceMul, Nat.reduceSub, Nat.reduceEqDiff, Nat.reduceLT, Nat.reduceLeDiff, hlk1, tmod_nn, hqq])
                | ((first | (with_reducible refine r_ret ?_) | (with_reducible refine pick_viewG default (by first | omega | (simp only [LN, hlk1, tmod_nn, hqq]; omega)) (by first | omega | (simp only [LN, hlk1, tmod_nn, hqq]; omega)) ?_) | (with_reducible refine pick_own default (by first | omega | (simp only [LN, hlk1, tmod_nn, hqq]; omega)) ?_) | (with_reducible refine And.intro (by first | decide | omega | assumption | (simp only [LN, hlk1, tmod_nn, hqq]; omega)) ?_) | ((with_reducible apply callK_pure); (first | exact c28 x G g1 ws hu _ _ | exact c30 x G g1 ws hu _ _ | exact c29 x G g1 ws hu _ _ _ hv | exact c31 x G g1 ws hu _ _ _ hv | exact c27 _ (by omega) | fail)) | ((with_reducible apply callF_lend); (first | exact c28 x G g1 ws hu _ _ | exact c30 x G g1 ws hu _ _ | exact c29 x G g1 ws hu _ _ _ hv | exact c31 x G g1 ws hu _ _ _ hv | exact c27 _ (by omega) | fail); rfl) | ((with_reducible apply callF_go); (first | exact c28 x G g1 ws hu _ _ | exact c30 x G g1 ws hu _ _ | exact c29 x G g1 ws hu _ _ _ hv | exact c31 x G g1 ws hu _ _ _ hv | exact c27 _ (by omega) | fail)) | ((with_reducible show pickE _ _ _); first | refine pickE_intro _ ⟨by omega, by rfl⟩ ?_ | refine pickE_intro _ (by rfl) ?_) | fail); try simp -dsimp -implicitDefEqProofs (maxSteps := 1000000) (disch := first | omega | (simp only [LN, hlk1, tmod_nn, hqq]; omega)) only [go_sem, Int.reduceToNat, Int.reducePow, Nat.reducePow, Int.reduceAdd, Int.reduceMul, Int.reduceSub, Int.reduceNeg, Nat.reduceAdd, Nat.reduceMul, Nat.reduceSub, Nat.reduceEqDiff, Nat.reduceLT, Nat.reduceLeDiff, hlk1, tmod_nn, hqq])
                | fail)
              all_goals first | rfl | omega | (simp; done) | trace_state
            · have hsr := setR_len x ws a.nm a.i a.v
              repeat' ((fail_if_success (with_reducible show awp _ _ (Code.region 21 _ _) _ _)); first
                | (with_reducible first | refine r_seq ?_ | refine r_block ?_ | refine fork_not ?_ | refine fork_and ?_ | refine fork_or ?_ | refine chk_ok (by kernel_rfl) ?_)
                | ((with_reducible first | refine fork_dec ?_ ?_ | refine fork_eq ?_ ?_ | refine fork_ne ?_ ?_ | refine fork_intro ?_ ?_) <;> intro h <;> try (exfalso; first | omega | exact h rfl | (revert h; decide) | (cases h; done)))
                | ((with_reducible show False); omega)
                | ((first | (with_reducible first | refine r_exit ?_ | refine r_skip ?_ | refine r_cond ?_ | refine r_region ?_ | show VX _ _ _ _ _ _ _ | show vstep _ _ _ _ _ | show vskip _ _ _ | show withV _ _) | ((with_reducible show endA _ _ _ _ _ _ _); simp -implicitDefEqProofs only [endA])); simp -dsimp -implicitDefEqProofs (maxSteps := 1000000) (disch := first | omega | (simp only [LN, hlk1, tmod_nn]; omega)) only [go_sem, Int.reduceToNat, Int.reducePow, Nat.reducePow, Int.reduceAdd, Int.reduceMul, Int.reduceSub, Int.reduceNeg, Nat.reduceAdd, Nat.reduceMul, Nat.reduceSub, Nat.reduceEqDiff, Nat.reduceLT, Nat.reduceLeDiff, hlk1, tmod_nn])
                | ((first | (with_reducible refine r_ret ?_) | (with_reducible refine pick_viewG default (by first | omega | (simp only [LN, hlk1, tmod_nn]; omega)) (by first | omega | (simp only [LN, hlk1, tmod_nn]; omega)) ?_) | (with_reducible refine pick_own default (by first | omega | (simp only [LN, hlk1, tmod_nn]; omega)) ?_) | (with_reducible refine And.intro (by first | decide | omega | assumption | (simp only [LN, hlk1, tmod_nn]; omega)) ?_) | ((with_reducible show pickE _ _ _); first | refine pickE_intro _ ⟨by omega, by rfl⟩ ?_ | refine pickE_intro _ (by rfl) ?_) | fail); try simp -dsimp -implicitDefEqProofs (maxSteps := 1000000) (disch := first | omega | (simp only [LN, hlk1, tmod_nn]; omega)) only [go_sem, Int.reduceToNat, Int.reducePow, Nat.reducePow, Int.reduceAdd, Int.reduceMul, Int.reduceSub, Int.reduceNeg, Nat.reduceAdd, Nat.reduceMul, Nat.reduceSub, Nat.reduceEqDiff, Nat.reduceLT, Nat.reduceLeDiff, hlk1, tmod_nn])
                | fail)
              all_goals try omega
              refine r_frz [5, 7, 9, 11, 14] (fun b => [(13, .p (.view 1 (ws.map eW)))]) fun I hI => ?_
              simp -dsimp -implicitDefEqProofs (maxSteps := 1000000) (disch := first | omega | (simp only [LN]; omega)) only [go_sem, Int.reduceToNat, Int.reducePow, Nat.reducePow, Int.reduceAdd, Int.reduceMul, Int.reduceSub, Int.reduceNeg, Nat.reduceAdd, Nat.reduceMul, Nat.reduceSub, Nat.reduceEqDiff, Nat.reduceLT, Nat.reduceLeDiff] at hI
              subst hI
              refine And.intro ?_ ?_
              · (simp -dsimp -implicitDefEqProofs (maxSteps := 1000000) (disch := first | omega | (simp only [LN, hlk1, htk]; omega)) only [go_sem, Int.reduceToNat, Int.reducePow, Nat.reducePow, Int.reduceAdd, Int.reduceMul, Int.reduceSub, Int.reduceNeg, Nat.reduceAdd, Nat.reduceMul, Nat.reduceSub, Nat.reduceEqDiff, Nat.reduceLT, Nat.reduceLeDiff, hlk1, htk]) <;> (try omega)
              repeat' (first
                | (with_reducible first | refine r_seq ?_ | refine r_block ?_ | refine fork_not ?_ | refine fork_and ?_ | refine fork_or ?_ | refine chk_ok (by kernel_rfl) ?_)
                | ((with_reducible first | refine fork_dec ?_ ?_ | refine fork_eq ?_ ?_ | refine fork_ne ?_ ?_ | refine fork_intro ?_ ?_) <;> intro h <;> try (exfalso; first | omega | exact h rfl | (revert h; decide) | (cases h; done)))
                | ((with_reducible show False); omega)
                | ((first | (with_reducible first | refine r_exit ?_ | refine r_skip ?_ | refine r_cond ?_ | refine r_region ?_ | show VX _ _ _ _ _ _ _ | show vstep _ _ _ _ _ | show vskip _ _ _ | show withV _ _) | ((with_reducible show endA _ _ _ _ _ _ _); simp -implicitDefEqProofs only [endA])); simp -dsimp -implicitDefEqProofs (maxSteps := 1000000) (disch := first | omega | (simp only [LN, hlk1, tmod_nn]; omega)) only [go_sem, Int.reduceToNat, Int.reducePow, Nat.reducePow, Int.reduceAdd, Int.reduceMul, Int.reduceSub, Int.reduceNeg, Nat.reduceAdd, Nat.reduceMul, Nat.reduceSub, Nat.reduceEqDiff, Nat.reduceLT, Nat.reduceLeDiff, hlk1, tmod_nn])
                | ((first | (with_reducible refine r_ret ?_) | (with_reducible refine pick_viewG default (by first | omega | (simp only [LN, hlk1, tmod_nn]; omega)) (by first | omega | (simp only [LN, hlk1, tmod_nn]; omega)) ?_) | (with_reducible refine pick_own default (by first | omega | (simp only [LN, hlk1, tmod_nn]; omega)) ?_) | (with_reducible refine And.intro (by first | decide | omega | assumption | (simp only [LN, hlk1, tmod_nn]; omega)) ?_) | ((with_reducible apply callK_pure); (first | exact c28 x G g1 ws hu _ _ | exact c30 x G g1 ws hu _ _ | exact c29 x G g1 ws hu _ _ _ hv | exact c31 x G g1 ws hu _ _ _ hv | exact c27 _ (by omega) | fail)) | ((with_reducible apply callF_lend); (first | exact c28 x G g1 ws hu _ _ | exact c30 x G g1 ws hu _ _ | exact c29 x G g1 ws hu _ _ _ hv | exact c31 x G g1 ws hu _ _ _ hv | exact c27 _ (by omega) | fail); rfl) | ((with_reducible apply callF_go); (first | exact c28 x G g1 ws hu _ _ | exact c30 x G g1 ws hu _ _ | exact c29 x G g1 ws hu _ _ _ hv | exact c31 x G g1 ws hu _ _ _ hv | exact c27 _ (by omega) | fail)) | ((with_reducible show pickE _ _ _); first | refine pickE_intro _ ⟨by omega, by rfl⟩ ?_ | refine pickE_intro _ (by rfl) ?_) | fail); try simp -dsimp -implicitDefEqProofs (maxSteps := 1000000) (disch := first | omega | (simp only [LN, hlk1, tmod_nn]; omega)) only [go_sem, Int.reduceToNat, Int.reducePow, Nat.reducePow, Int.reduceAdd, Int.reduceMul, Int.reduceSub, Int.reduceNeg, Nat.reduceAdd, Nat.reduceMul, Nat.reduceSub, Nat.reduceEqDiff, Nat.reduceLT, Nat.reduceLeDiff, hlk1, tmod_nn])
                | fail)
              all_goals first | rfl | omega | (simp; done) | trace_state
    · have hlay := lay_bad he
      repeat' (first
        | (with_reducible first | refine r_seq ?_ | refine r_block ?_ | refine fork_not ?_ | refine fork_and ?_ | refine fork_or ?_ | refine chk_ok (by kernel_rfl) ?_)
        | ((with_reducible first | refine fork_dec ?_ ?_ | refine fork_eq ?_ ?_ | refine fork_ne ?_ ?_ | refine fork_intro ?_ ?_) <;> intro h <;> try (exfalso; first | omega | exact h rfl | (revert h; decide) | (cases h; done)))
        | ((with_reducible show False); omega)
        | ((first | (with_reducible first | refine r_exit ?_ | refine r_skip ?_ | refine r_cond ?_ | refine r_region ?_ | show VX _ _ _ _ _ _ _ | show vstep _ _ _ _ _ | show vskip _ _ _ | show withV _ _) | ((with_reducible show endA _ _ _ _ _ _ _); simp -implicitDefEqProofs only [endA])); simp -dsimp -implicitDefEqProofs (maxSteps := 1000000) (disch := first | omega | (simp only [LN, hgx, hlay]; omega)) only [go_sem, Int.reduceToNat, Int.reducePow, Nat.reducePow, Int.reduceAdd, Int.reduceMul, Int.reduceSub, Int.reduceNeg, Nat.reduceAdd, Nat.reduceMul, Nat.reduceSub, Nat.reduceEqDiff, Nat.reduceLT, Nat.reduceLeDiff, hgx, hlay])
        | ((first | (with_reducible refine r_ret ?_) | (with_reducible refine pick_viewG default (by first | omega | (simp only [LN, hgx, hlay]; omega)) (by first | omega | (simp only [LN, hgx, hlay]; omega)) ?_) | (with_reducible refine pick_own default (by first | omega | (simp only [LN, hgx, hlay]; omega)) ?_) | (with_reducible refine And.intro (by first | decide | omega | assumption | (simp only [LN, hgx, hlay]; omega)) ?_) | ((with_reducible apply callK_pure); (first | exact c12 | exact c13 x hlen | exact c14 x (by omega) hr.ty | exact c16 x (by omega) hr.ty | exact c15 x g1 g2 g3 | fail)) | ((with_reducible apply callF_lend); (first | exact c12 | exact c13 x hlen | exact c14 x (by omega) hr.ty | exact c16 x (by omega) hr.ty | exact c15 x g1 g2 g3 | fail); rfl) | ((with_reducible apply callF_go); (first | exact c12 | exact c13 x hlen | exact c14 x (by omega) hr.ty | exact c16 x (by omega) hr.ty | exact c15 x g1 g2 g3 | fail)) | ((with_reducible show pickE _ _ _); first | refine pickE_intro _ ⟨by omega, by rfl⟩ ?_ | refine pickE_intro _ (by rfl) ?_) | fail); try simp -dsimp -implicitDefEqProofs (maxSteps := 1000000) (disch := first | omega | (simp only [LN, hgx, hlay]; omega)) only [go_sem, Int.reduceToNat, Int.reducePow, Nat.reducePow, Int.reduceAdd, Int.reduceMul, Int.reduceSub, Int.reduceNeg, Nat.reduceAdd, Nat.reduceMul, Nat.reduceSub, Nat.reduceEqDiff, Nat.reduceLT, Nat.reduceLeDiff, hgx, hlay])
        | fail)
      all_goals first | rfl | omega | (simp [he]; done) | trace_state
end Go.Proofs.YtlkffmmgcoiniaaDoor
