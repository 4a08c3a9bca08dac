/- Contracts of functions of this program, and the plain facts that they rest on. No conditions. -/
import Derived.Test.YtlkffmmgcoiniaaDoorD27
set_option linter.unusedSimpArgs false
set_option linter.unusedVariables false
namespace Go.Proofs.YtlkffmmgcoiniaaDoor
open Go Go.Ab
attribute [local irreducible] callK callF loopQ vstep vskip pickE hideP
set_option maxRecDepth 100000
attribute [local go_sem] eF rF eS eP eX rX eQ eL eN eW
/-- The number of elements before a field. -/
def offF (fs : List F) : Nat → Nat
  | 0 => 0
  | f + 1 => offF fs f + (fs.getD f default).cnt.toNat
/-- A value of w bits out of a seed. -/
def cutS (s : Int) (w : Nat) : Int := if w < 64 then s / 2 ^ (64 - w) else s
theorem cutS_ok {s : Int} (h : 0 ≤ s ∧ s < 18446744073709551616) {w : Nat} (hw : 1 ≤ w ∧ w ≤ 64) : 0 ≤ cutS s w ∧ cutS s w < 2 ^ w := by
  unfold cutS
  split
  · have hp : (0 : Int) < 2 ^ (64 - w) := by
      have := Nat.two_pow_pos (64 - w)
      have e : (2 : Int) ^ (64 - w) = ((2 ^ (64 - w) : Nat) : Int) := by push_cast; rfl
      omega
    refine ⟨Int.ediv_nonneg h.1 (by omega), Int.ediv_lt_of_lt_mul hp ?_⟩
    have e : (2 : Int) ^ w * 2 ^ (64 - w) = 18446744073709551616 := by rw [← Int.pow_add, show w + (64 - w) = 64 by omega]; rfl
    rw [e]; exact h.2
  · obtain rfl : w = 64 := by omega
    exact ⟨h.1, h.2⟩
theorem cutS_t {s : Int} {w : Nat} (h : w < 64) : cutS s w = s / 2 ^ (64 - w) := if_pos h
theorem cutS_f {s : Int} {w : Nat} (h : ¬ w < 64) : cutS s w = s := if_neg h
def valS (x : X) (s : Int) (f k : Nat) : Nat := (cutS (nxS (sdI s (offF x.fs f + k))) (wdE x f)).toNat
theorem valS_lt (x : X) (s : Int) (f k : Nat) : valS x s f k < 2 ^ wdE x f := by
  have h := cutS_ok (nxS_ok (sdI s (offF x.fs f + k))) (wdE_le x f)
  have e : (2 : Int) ^ wdE x f = ((2 ^ wdE x f : Nat) : Int) := by push_cast; rfl
  unfold valS; omega
theorem valS_i (x : X) (s : Int) (f k : Nat) : ((valS x s f k : Nat) : Int) = cutS (nxS (sdI s (offF x.fs f + k))) (wdE x f) := by
  have h := cutS_ok (nxS_ok (sdI s (offF x.fs f + k))) (wdE_le x f)
  unfold valS; omega
def buC (x : X) (s : Int) (f : Nat) : Nat → Option Nat := fun k => some (valS x s f k)
def buN (x : X) (f : Nat) : Nat := (x.fs.getD f default).cnt.toNat
def buF (x : X) (s : Int) (f : Nat) : List Nat := foldF x (buC x s) (buN x) f
def buK (x : X) (s : Int) (f k : Nat) : List Nat := foldK x f (buC x s f) (buF x s f) k
theorem buF_0 (x : X) (s : Int) : (buF x s 0).map eW = List.replicate (wordsM x) (.v (.int .u64 0)) := map_rep _
theorem buK_0 (x : X) (s : Int) (f : Nat) : buK x s f 0 = buF x s f := rfl
theorem buK_s (x : X) (s : Int) (f k : Nat) : buK x s f (k + 1) = putE x (buK x s f k) f k (valS x s f k) := rfl
theorem buF_s (x : X) (s : Int) (f : Nat) : buF x s (f + 1) = buK x s f (x.fs.getD f default).cnt.toNat := rfl
theorem buF_ok (x : X) (s : Int) (f : Nat) : (buF x s f).length = wordsM x ∧ U64 (buF x s f) := foldF_ok _ _ _ _
theorem buK_ok (x : X) (s : Int) (f k : Nat) : (buK x s f k).length = wordsM x ∧ U64 (buK x s f k) := foldK_ok _ _ _ (buF_ok x s f).1 (buF_ok x s f).2 _
theorem offF_s (fs : List F) (f : Nat) : offF fs (f + 1) = offF fs f + (fs.getD f default).cnt.toNat := rfl
theorem wide_eF (x : X) : (wideL x.fs x.fs.length).map eF = (wideX x).fs.map eF := rfl
theorem widen_e (f : F) : eF (widen f) = .agg [.v (.string (bs f.nm)), .v (.int .u8 (if f.ty ≠ 2 ∧ f.ty ≠ 7 then 1 else f.ty)), .v (.int .i64 (f.cnt + 1))] := rfl
theorem wide_rd {x : X} (hr : Rd x) (G : Good x) : ∀ i, i < (wideX x).fs.length → 0 ≤ ((wideX x).fs.getD i default).ty ∧ ((wideX x).fs.getD i default).ty < 256 := fun i hi => by
  have := (okF (wide_err G i hi)).2.1; omega
theorem idxI {n j : Nat} (h : j < n) : ((n : Int) - 1 - (j : Int)).toNat = n - 1 - j := by omega
theorem c14w {x : X} (hr : Rd x) (G : Good x) (hl : x.fs.length ≤ 40) : PCalls Tryd.prog 14 [.v (.string (bs [119, 105, 100, 101])), .v (.int .i64 2), .view 3 ((wideL x.fs x.fs.length).map eF)] (.tup [eL (layM (wideX x)), .v (.int .i64 (newE (wideX x)))]) :=
  c14 (wideX x) (by rw [wide_len]; omega) (wide_rd hr G)
theorem buF_e {x : X} {s : Int} : buF x s x.fs.length = foldF x (fun f k => some (valS x s f k)) (fun f => (x.fs.getD f default).cnt.toNat) x.fs.length := rfl
theorem wideL_0 (fs : List F) : (wideL fs 0).map eF = [] := rfl
attribute [local irreducible] slotAt posE wdE wordsM getB setB mskN plAt getR setR putE getE badV cvK cvF wN sdI convR nxS buF buK valS wideX wideL offF cutS
set_option maxRecDepth 100000 in
set_option maxHeartbeats 4000000 in
theorem c9 (x : X) (hr : Rd x) (s : Int) (hs : 0 ≤ s ∧ s ≤ 18446744073709551615) : PCalls Tryd.prog 9 [eX x, .v (.int .u64 s)] (.v (.bool true)) := by
  refine pcalls_of (E := E) (fn := Tryd.f9) 157 [.tmp 4] rfl rfl rfl rfl (by decide) rfl ?_
  have hlen := hr.len
  by_cases hgx : greatM x = true
  · repeat' (first
      | (with_reducible first | refine r_seq ?_ | refine r_block ?_ | refine fork_not ?_ | refine fork_and ?_ | refine fork_or ?_ | refine chk_ok (by kernel_rfl) ?_)
      | ((with_reducible first | refine fork_dec ?_ ?_ | refine fork_eq ?_ ?_ | refine fork_ne ?_ ?_ | refine fork_intro ?_ ?_) <;> intro h <;> try (exfalso; first | omega | exact h rfl | (revert h; decide) | (cases h; done)))
      | ((with_reducible show False); omega)
      | ((first | (with_reducible first | refine r_exit ?_ | refine r_skip ?_ | refine r_cond ?_ | refine r_region ?_ | show VX _ _ _ _ _ _ _ | show vstep _ _ _ _ _ | show vskip _ _ _ | show withV _ _) | ((with_reducible show endA _ _ _ _ _ _ _); simp -implicitDefEqProofs only [endA])); simp -dsimp -implicitDefEqProofs (maxSteps := 1000000) (disch := first | omega | (simp only [LN, hgx]; omega)) only [go_sem, Int.reduceToNat, Int.reducePow, Nat.reducePow, Int.reduceAdd, Int.reduceMul, Int.reduceSub, Int.reduceNeg, Nat.reduceAdd, Nat.reduceMul, Nat.reduceSub, Nat.reduceEqDiff, Nat.reduceLT, Nat.reduceLeDiff, hgx])
      | ((first | (with_reducible refine r_ret ?_) | (with_reducible refine pick_viewG default (by first | omega | (simp only [LN, hgx]; omega)) (by first | omega | (simp only [LN, hgx]; omega)) ?_) | (with_reducible refine pick_own default (by first | omega | (simp only [LN, hgx]; omega)) ?_) | (with_reducible refine And.intro (by first | decide | omega | assumption | (simp only [LN, hgx]; omega)) ?_) | ((with_reducible apply callK_pure); (first | exact c12 | exact c13 x hlen | fail)) | ((with_reducible apply callF_lend); (first | exact c12 | exact c13 x hlen | fail); rfl) | ((with_reducible apply callF_go); (first | exact c12 | exact c13 x hlen | fail)) | ((with_reducible show pickE _ _ _); first | refine pickE_intro _ ⟨by omega, by rfl⟩ ?_ | refine pickE_intro _ (by rfl) ?_) | fail); try simp -dsimp -implicitDefEqProofs (maxSteps := 1000000) (disch := first | omega | (simp only [LN, hgx]; omega)) only [go_sem, Int.reduceToNat, Int.reducePow, Nat.reducePow, Int.reduceAdd, Int.reduceMul, Int.reduceSub, Int.reduceNeg, Nat.reduceAdd, Nat.reduceMul, Nat.reduceSub, Nat.reduceEqDiff, Nat.reduceLT, Nat.reduceLeDiff, hgx])
      | fail)
    all_goals first | rfl | omega | (simp; done) | trace_state
  have hgx : greatM x = false := by simpa using hgx
  obtain ⟨g1, g2, g3⟩ := greatM_f hgx
  by_cases hex : newE x = 0
  · have G := good_of hex
    have hlay := G.lay
    have hsl := slotsTo_len x.fs x.fs.length
    have hbig : wordsM x ≤ 60 := by have := G.fit; unfold wordsM; omega
    have hwp := words_pos x
    repeat' (first
      | (with_reducible first | refine r_seq ?_ | refine r_block ?_ | refine fork_not ?_ | refine fork_and ?_ | refine fork_or ?_ | refine chk_ok (by kernel_rfl) ?_)
      | ((with_reducible first | refine fork_dec ?_ ?_ | refine fork_eq ?_ ?_ | refine fork_ne ?_ ?_ | refine fork_intro ?_ ?_) <;> intro h <;> try (exfalso; first | omega | exact h rfl | (revert h; decide) | (cases h; done)))
      | ((with_reducible show False); omega)
      | ((first | (with_reducible first | refine r_exit ?_ | refine r_skip ?_ | refine r_cond ?_ | refine r_region ?_ | show VX _ _ _ _ _ _ _ | show vstep _ _ _ _ _ | show vskip _ _ _ | show withV _ _) | ((with_reducible show endA _ _ _ _ _ _ _); simp -implicitDefEqProofs only [endA])); simp -dsimp -implicitDefEqProofs (maxSteps := 1000000) (disch := first | omega | (simp only [LN, hgx, hex, hlay, laG]; omega)) only [go_sem, Int.reduceToNat, Int.reducePow, Nat.reducePow, Int.reduceAdd, Int.reduceMul, Int.reduceSub, Int.reduceNeg, Nat.reduceAdd, Nat.reduceMul, Nat.reduceSub, Nat.reduceEqDiff, Nat.reduceLT, Nat.reduceLeDiff, hgx, hex, hlay, laG])
      | ((first | (with_reducible refine r_ret ?_) | (with_reducible refine pick_viewG default (by first | omega | (simp only [LN, hgx, hex, hlay, laG]; omega)) (by first | omega | (simp only [LN, hgx, hex, hlay, laG]; omega)) ?_) | (with_reducible refine pick_own default (by first | omega | (simp only [LN, hgx, hex, hlay, laG]; omega)) ?_) | (with_reducible refine And.intro (by first | decide | omega | assumption | (simp only [LN, hgx, hex, hlay, laG]; omega)) ?_) | ((with_reducible apply callK_pure); (first | exact c12 | exact c13 x hlen | exact c14 x (by omega) hr.ty | fail)) | ((with_reducible apply callF_lend); (first | exact c12 | exact c13 x hlen | exact c14 x (by omega) hr.ty | fail); rfl) | ((with_reducible apply callF_go); (first | exact c12 | exact c13 x hlen | exact c14 x (by omega) hr.ty | fail)) | ((with_reducible show pickE _ _ _); first | refine pickE_intro _ ⟨by omega, by rfl⟩ ?_ | refine pickE_intro _ (by rfl) ?_) | fail); try simp -dsimp -implicitDefEqProofs (maxSteps := 1000000) (disch := first | omega | (simp only [LN, hgx, hex, hlay, laG]; omega)) only [go_sem, Int.reduceToNat, Int.reducePow, Nat.reducePow, Int.reduceAdd, Int.reduceMul, Int.reduceSub, Int.reduceNeg, Nat.reduceAdd, Nat.reduceMul, Nat.reduceSub, Nat.reduceEqDiff, Nat.reduceLT, Nat.reduceLeDiff, hgx, hex, hlay, laG])
      | fail)
    all_goals try omega
    refine r_loopA (α := Nat) [1, 2, 5] (fun j b => [(7, .sl b 3 0 j), (8, aI ((x.fs.length : Int) - 1 - j))]) (fun j b => []) (fun j => [.arr 3 ((wideL x.fs j).map eF)]) (fun j => j ≤ x.fs.length) (fun j => x.fs.length - j) (0) ?h0_1 ?hs0_1 ?I_1 ?hI_1 ?round_1
    case hI_1 => intro x; (simp -dsimp -implicitDefEqProofs (maxSteps := 1000000) (disch := first | omega | (simp only [LN]; omega)) only [go_sem, Int.reduceToNat, Int.reducePow, Nat.reducePow, Int.reduceAdd, Int.reduceMul, Int.reduceSub, Int.reduceNeg, Nat.reduceAdd, Nat.reduceMul, Nat.reduceSub, Nat.reduceEqDiff, Nat.reduceLT, Nat.reduceLeDiff]) <;> exact rfl
    case hs0_1 => refine wk_auto ?_; (simp -dsimp -implicitDefEqProofs (maxSteps := 1000000) (disch := first | omega | (simp only [LN, wideL_0]; omega)) only [go_sem, Int.reduceToNat, Int.reducePow, Nat.reducePow, Int.reduceAdd, Int.reduceMul, Int.reduceSub, Int.reduceNeg, Nat.reduceAdd, Nat.reduceMul, Nat.reduceSub, Nat.reduceEqDiff, Nat.reduceLT, Nat.reduceLeDiff, wideL_0]) <;> (try omega)
    case h0_1 => exact Nat.zero_le _
    case round_1 =>
      intro j hj
      have hwl := wideL_len x.fs j
      by_cases hj2 : j < x.fs.length
      · have hws := wideL_s x.fs j
        have hix := idxI hj2
        have hcc := G.cnt (x.fs.length - 1 - j) (by omega)
        have hjn : (x.fs.length : Int) - 1 - (j : Int) - 1 = (x.fs.length : Int) - 1 - ((j : Int) + 1) := by omega
        have e1 : (widen (x.fs.getD (x.fs.length - 1 - j) default)).nm = (x.fs.getD (x.fs.length - 1 - j) default).nm := rfl
        have e3 : (widen (x.fs.getD (x.fs.length - 1 - j) default)).cnt = (x.fs.getD (x.fs.length - 1 - j) default).cnt + 1 := rfl
        by_cases ht : (x.fs.getD (x.fs.length - 1 - j) default).ty ≠ 2 ∧ (x.fs.getD (x.fs.length - 1 - j) default).ty ≠ 7
        · have e2 : (widen (x.fs.getD (x.fs.length - 1 - j) default)).ty = 1 := if_pos ht
          repeat' (first
            | (with_reducible first | refine r_seq ?_ | refine r_block ?_ | refine fork_not ?_ | refine fork_and ?_ | refine fork_or ?_ | refine chk_ok (by kernel_rfl) ?_)
            | ((with_reducible first | refine fork_dec ?_ ?_ | refine fork_eq ?_ ?_ | refine fork_ne ?_ ?_ | refine fork_intro ?_ ?_) <;> intro h <;> try (exfalso; first | omega | exact h rfl | (revert h; decide) | (cases h; done)))
            | ((with_reducible show False); omega)
            | ((first | (with_reducible first | refine r_exit ?_ | refine r_skip ?_ | refine r_cond ?_ | refine r_region ?_ | show VX _ _ _ _ _ _ _ | show vstep _ _ _ _ _ | show vskip _ _ _ | show withV _ _) | ((with_reducible show endA _ _ _ _ _ _ _); simp -implicitDefEqProofs only [endA])); simp -dsimp -implicitDefEqProofs (maxSteps := 1000000) (disch := first | omega | (simp only [LN, hwl, hix]; omega)) only [go_sem, Int.reduceToNat, Int.reducePow, Nat.reducePow, Int.reduceAdd, Int.reduceMul, Int.reduceSub, Int.reduceNeg, Nat.reduceAdd, Nat.reduceMul, Nat.reduceSub, Nat.reduceEqDiff, Nat.reduceLT, Nat.reduceLeDiff, hwl, hix])
            | ((first | (with_reducible refine r_ret ?_) | (with_reducible refine pick_viewG default (by first | omega | (simp only [LN, hwl, hix]; omega)) (by first | omega | (simp only [LN, hwl, hix]; omega)) ?_) | (with_reducible refine pick_own default (by first | omega | (simp only [LN, hwl, hix]; omega)) ?_) | (with_reducible refine And.intro (by first | decide | omega | assumption | (simp only [LN, hwl, hix]; omega)) ?_) | ((with_reducible show pickE _ _ _); first | refine pickE_intro _ ⟨by omega, by rfl⟩ ?_ | refine pickE_intro _ (by rfl) ?_) | fail); try simp -dsimp -implicitDefEqProofs (maxSteps := 1000000) (disch := first | omega | (simp only [LN, hwl, hix]; omega)) only [go_sem, Int.reduceToNat, Int.reducePow, Nat.reducePow, Int.reduceAdd, Int.reduceMul, Int.reduceSub, Int.reduceNeg, Nat.reduceAdd, Nat.reduceMul, Nat.reduceSub, Nat.reduceEqDiff, Nat.reduceLT, Nat.reduceLeDiff, hwl, hix])
            | fail)
          all_goals first | omega | (refine loopQ_next (j + 1) ?_ ?_ ?_; (omega); (show _ < _; omega); (simp -dsimp -implicitDefEqProofs (maxSteps := 1000000) (disch := first | omega | (simp only [LN, hws, List.map_append, List.map_cons, List.map_nil, e1, e2, e3, hjn, hwl, List.length_append, List.length_singleton]; omega)) only [go_sem, Int.reduceToNat, Int.reducePow, Nat.reducePow, Int.reduceAdd, Int.reduceMul, Int.reduceSub, Int.reduceNeg, Nat.reduceAdd, Nat.reduceMul, Nat.reduceSub, Nat.reduceEqDiff, Nat.reduceLT, Nat.reduceLeDiff, hws, List.map_append, List.map_cons, List.map_nil, e1, e2, e3, hjn, hwl, List.length_append, List.length_singleton]; try trivial)) | trace_state
        · have e2 : (widen (x.fs.getD (x.fs.length - 1 - j) default)).ty = (x.fs.getD (x.fs.length - 1 - j) default).ty := if_neg ht
          repeat' (first
            | (with_reducible first | refine r_seq ?_ | refine r_block ?_ | refine fork_not ?_ | refine fork_and ?_ | refine fork_or ?_ | refine chk_ok (by kernel_rfl) ?_)
            | ((with_reducible first | refine fork_dec ?_ ?_ | refine fork_eq ?_ ?_ | refine fork_ne ?_ ?_ | refine fork_intro ?_ ?_) <;> intro h <;> try (exfalso; first | omega | exact h rfl | (revert h; decide) | (cases h; done)))
            | ((with_reducible show False); omega)
            | ((first | (with_reducible first | refine r_exit ?_ | refine r_skip ?_ | refine r_cond ?_ | refine r_region ?_ | show VX _ _ _ _ _ _ _ | show vstep _ _ _ _ _ | show vskip _ _ _ | show withV _ _) | ((with_reducible show endA _ _ _ _ _ _ _); simp -implicitDefEqProofs only [endA])); simp -dsimp -implicitDefEqProofs (maxSteps := 1000000) (disch := first | omega | (simp only [LN, hwl, hix]; omega)) only [go_sem, Int.reduceToNat, Int.reducePow, Nat.reducePow, Int.reduceAdd, Int.reduceMul, Int.reduceSub, Int.reduceNeg, Nat.reduceAdd, Nat.reduceMul, Nat.reduceSub, Nat.reduceEqDiff, Nat.reduceLT, Nat.reduceLeDiff, hwl, hix])
            | ((first | (with_reducible refine r_ret ?_) | (with_reducible refine pick_viewG default (by first | omega | (simp only [LN, hwl, hix]; omega)) (by first | omega | (simp only [LN, hwl, hix]; omega)) ?_) | (with_reducible refine pick_own default (by first | omega | (simp only [LN, hwl, hix]; omega)) ?_) | (with_reducible refine And.intro (by first | decide | omega | assumption | (simp only [LN, hwl, hix]; omega)) ?_) | ((with_reducible show pickE _ _ _); first | refine pickE_intro _ ⟨by omega, by rfl⟩ ?_ | refine pickE_intro _ (by rfl) ?_) | fail); try simp -dsimp -implicitDefEqProofs (maxSteps := 1000000) (disch := first | omega | (simp only [LN, hwl, hix]; omega)) only [go_sem, Int.reduceToNat, Int.reducePow, Nat.reducePow, Int.reduceAdd, Int.reduceMul, Int.reduceSub, Int.reduceNeg, Nat.reduceAdd, Nat.reduceMul, Nat.reduceSub, Nat.reduceEqDiff, Nat.reduceLT, Nat.reduceLeDiff, hwl, hix])
            | fail)
          all_goals first | omega | (refine loopQ_next (j + 1) ?_ ?_ ?_; (omega); (show _ < _; omega); (simp -dsimp -implicitDefEqProofs (maxSteps := 1000000) (disch := first | omega | (simp only [LN, hws, List.map_append, List.map_cons, List.map_nil, e1, e2, e3, hjn, hwl, List.length_append, List.length_singleton]; omega)) only [go_sem, Int.reduceToNat, Int.reducePow, Nat.reducePow, Int.reduceAdd, Int.reduceMul, Int.reduceSub, Int.reduceNeg, Nat.reduceAdd, Nat.reduceMul, Nat.reduceSub, Nat.reduceEqDiff, Nat.reduceLT, Nat.reduceLeDiff, hws, List.map_append, List.map_cons, List.map_nil, e1, e2, e3, hjn, hwl, List.length_append, List.length_singleton]; try trivial)) | trace_state
      · obtain rfl : j = x.fs.length := by omega
        have cw := c14w hr G g1
        rcases wide_new G with he | he
        · have GY := good_of he
          have hlY := GY.lay
          have hwn := words_n x
          rw [he, hlY] at cw
          repeat' (first
            | (with_reducible first | refine r_seq ?_ | refine r_block ?_ | refine fork_not ?_ | refine fork_and ?_ | refine fork_or ?_ | refine chk_ok (by kernel_rfl) ?_)
            | ((with_reducible first | refine fork_dec ?_ ?_ | refine fork_eq ?_ ?_ | refine fork_ne ?_ ?_ | refine fork_intro ?_ ?_) <;> intro h <;> try (exfalso; first | omega | exact h rfl | (revert h; decide) | (cases h; done)))
            | ((with_reducible show False); omega)
            | ((first | (with_reducible first | refine r_exit ?_ | refine r_skip ?_ | refine r_cond ?_ | refine r_region ?_ | show VX _ _ _ _ _ _ _ | show vstep _ _ _ _ _ | show vskip _ _ _ | show withV _ _) | ((with_reducible show endA _ _ _ _ _ _ _); simp -implicitDefEqProofs only [endA])); simp -dsimp -implicitDefEqProofs (maxSteps := 1000000) (disch := first | omega | (simp only [LN, hwl, laG, hwn]; omega)) only [go_sem, Int.reduceToNat, Int.reducePow, Nat.reducePow, Int.reduceAdd, Int.reduceMul, Int.reduceSub, Int.reduceNeg, Nat.reduceAdd, Nat.reduceMul, Nat.reduceSub, Nat.reduceEqDiff, Nat.reduceLT, Nat.reduceLeDiff, hwl, laG, hwn])
            | ((first | (with_reducible refine r_ret ?_) | (with_reducible refine pick_viewG default (by first | omega | (simp only [LN, hwl, laG, hwn]; omega)) (by first | omega | (simp only [LN, hwl, laG, hwn]; omega)) ?_) | (with_reducible refine pick_own default (by first | omega | (simp only [LN, hwl, laG, hwn]; omega)) ?_) | (with_reducible refine And.intro (by first | decide | omega | assumption | (simp only [LN, hwl, laG, hwn]; omega)) ?_) | ((with_reducible apply callK_pure); (first | exact cw | exact c20w' (x := x) | exact c17 (laG x) (by show (slotsTo _ _).length ≤ _; omega) | fail)) | ((with_reducible apply callF_lend); (first | exact cw | exact c20w' (x := x) | exact c17 (laG x) (by show (slotsTo _ _).length ≤ _; omega) | fail); rfl) | ((with_reducible apply callF_go); (first | exact cw | exact c20w' (x := x) | exact c17 (laG x) (by show (slotsTo _ _).length ≤ _; omega) | fail)) | ((with_reducible show pickE _ _ _); first | refine pickE_intro _ ⟨by omega, by rfl⟩ ?_ | refine pickE_intro _ (by rfl) ?_) | fail); try simp -dsimp -implicitDefEqProofs (maxSteps := 1000000) (disch := first | omega | (simp only [LN, hwl, laG, hwn]; omega)) only [go_sem, Int.reduceToNat, Int.reducePow, Nat.reducePow, Int.reduceAdd, Int.reduceMul, Int.reduceSub, Int.reduceNeg, Nat.reduceAdd, Nat.reduceMul, Nat.reduceSub, Nat.reduceEqDiff, Nat.reduceLT, Nat.reduceLeDiff, hwl, laG, hwn])
            | fail)
          all_goals try omega
          refine r_loopA (α := Nat) [5, 10, 85, 86] (fun f b => [(12, .p (.view 1 ((buF x s f).map eW))), (1, .p (.v (.int .u64 (sdI s (offF x.fs f))))), (87, aI f)]) (fun f b => []) (fun f => []) (fun f => f ≤ x.fs.length) (fun f => x.fs.length - f) (0) ?h0_2 ?hs0_2 ?I_2 ?hI_2 ?round_2
          case hI_2 => intro x; (simp -dsimp -implicitDefEqProofs (maxSteps := 1000000) (disch := first | omega | (simp only [LN]; omega)) only [go_sem, Int.reduceToNat, Int.reducePow, Nat.reducePow, Int.reduceAdd, Int.reduceMul, Int.reduceSub, Int.reduceNeg, Nat.reduceAdd, Nat.reduceMul, Nat.reduceSub, Nat.reduceEqDiff, Nat.reduceLT, Nat.reduceLeDiff]) <;> exact rfl
          case hs0_2 => refine wk_auto ?_; (simp -dsimp -implicitDefEqProofs (maxSteps := 1000000) (disch := first | omega | (simp only [LN, buF_0, List.take_replicate, Nat.min_self, List.length_replicate, offF, sdI_0]; omega)) only [go_sem, Int.reduceToNat, Int.reducePow, Nat.reducePow, Int.reduceAdd, Int.reduceMul, Int.reduceSub, Int.reduceNeg, Nat.reduceAdd, Nat.reduceMul, Nat.reduceSub, Nat.reduceEqDiff, Nat.reduceLT, Nat.reduceLeDiff, buF_0, List.take_replicate, Nat.min_self, List.length_replicate, offF, sdI_0]) <;> (try omega)
          case h0_2 => exact Nat.zero_le _
          case round_2 =>
            intro f hf
            obtain ⟨hfl, hfu⟩ := buF_ok x s f
            by_cases hf2 : f < x.fs.length
            · have hsg := slotsTo_get x.fs hf2
              have hsf := slotAt_f x.fs f
              have hsw := slotAt_w x f
              have hcf := G.cnt f hf2
              obtain ⟨c, hc⟩ := Int.eq_ofNat_of_zero_le (show (0 : Int) ≤ (x.fs.getD f default).cnt by omega)
              repeat' (first
                | (with_reducible first | refine r_seq ?_ | refine r_block ?_ | refine fork_not ?_ | refine fork_and ?_ | refine fork_or ?_ | refine chk_ok (by kernel_rfl) ?_)
                | ((with_reducible first | refine fork_dec ?_ ?_ | refine fork_eq ?_ ?_ | refine fork_ne ?_ ?_ | refine fork_intro ?_ ?_) <;> intro h <;> try (exfalso; first | omega | exact h rfl | (revert h; decide) | (cases h; done)))
                | ((with_reducible show False); omega)
                | ((first | (with_reducible first | refine r_exit ?_ | refine r_skip ?_ | refine r_cond ?_ | refine r_region ?_ | show VX _ _ _ _ _ _ _ | show vstep _ _ _ _ _ | show vskip _ _ _ | show withV _ _) | ((with_reducible show endA _ _ _ _ _ _ _); simp -implicitDefEqProofs only [endA])); simp -dsimp -implicitDefEqProofs (maxSteps := 1000000) (disch := first | omega | (simp only [LN, hsl, hsg, hsf, hsw, hc]; omega)) only [go_sem, Int.reduceToNat, Int.reducePow, Nat.reducePow, Int.reduceAdd, Int.reduceMul, Int.reduceSub, Int.reduceNeg, Nat.reduceAdd, Nat.reduceMul, Nat.reduceSub, Nat.reduceEqDiff, Nat.reduceLT, Nat.reduceLeDiff, hsl, hsg, hsf, hsw, hc])
                | ((first | (with_reducible refine r_ret ?_) | (with_reducible refine pick_viewG default (by first | omega | (simp only [LN, hsl, hsg, hsf, hsw, hc]; omega)) (by first | omega | (simp only [LN, hsl, hsg, hsf, hsw, hc]; omega)) ?_) | (with_reducible refine pick_own default (by first | omega | (simp only [LN, hsl, hsg, hsf, hsw, hc]; omega)) ?_) | (with_reducible refine And.intro (by first | decide | omega | assumption | (simp only [LN, hsl, hsg, hsf, hsw, hc]; omega)) ?_) | ((with_reducible show pickE _ _ _); first | refine pickE_intro _ ⟨by omega, by rfl⟩ ?_ | refine pickE_intro _ (by rfl) ?_) | fail); try simp -dsimp -implicitDefEqProofs (maxSteps := 1000000) (disch := first | omega | (simp only [LN, hsl, hsg, hsf, hsw, hc]; omega)) only [go_sem, Int.reduceToNat, Int.reducePow, Nat.reducePow, Int.reduceAdd, Int.reduceMul, Int.reduceSub, Int.reduceNeg, Nat.reduceAdd, Nat.reduceMul, Nat.reduceSub, Nat.reduceEqDiff, Nat.reduceLT, Nat.reduceLeDiff, hsl, hsg, hsf, hsw, hc])
                | fail)
              all_goals try omega
              refine r_loopA (α := Nat) [5, 10, 14, 85, 86, 87, 93] (fun k b => [(12, .p (.view 1 ((buK x s f k).map eW))), (1, .p (.v (.int .u64 (sdI s (offF x.fs f + k))))), (94, aI k)]) (fun k b => []) (fun k => []) (fun k => k ≤ c) (fun k => c - k) (0) ?h0_3 ?hs0_3 ?I_3 ?hI_3 ?round_3
              case hI_3 => intro x; (simp -dsimp -implicitDefEqProofs (maxSteps := 1000000) (disch := first | omega | (simp only [LN]; omega)) only [go_sem, Int.reduceToNat, Int.reducePow, Nat.reducePow, Int.reduceAdd, Int.reduceMul, Int.reduceSub, Int.reduceNeg, Nat.reduceAdd, Nat.reduceMul, Nat.reduceSub, Nat.reduceEqDiff, Nat.reduceLT, Nat.reduceLeDiff]) <;> exact rfl
              case hs0_3 => refine wk_auto ?_; (simp -dsimp -implicitDefEqProofs (maxSteps := 1000000) (disch := first | omega | (simp only [LN, buK_0, Nat.add_zero]; omega)) only [go_sem, Int.reduceToNat, Int.reducePow, Nat.reducePow, Int.reduceAdd, Int.reduceMul, Int.reduceSub, Int.reduceNeg, Nat.reduceAdd, Nat.reduceMul, Nat.reduceSub, Nat.reduceEqDiff, Nat.reduceLT, Nat.reduceLeDiff, buK_0, Nat.add_zero]) <;> (try omega)
              case h0_3 => exact Nat.zero_le _
              case round_3 =>
                intro k hk
                obtain ⟨hkl, hku⟩ := buK_ok x s f k
                by_cases hk2 : k < c
                · have hok := nxS_ok (sdI s (offF x.fs f + k))
                  have hw1 := wdE_le x f
                  have hvl := valS_lt x s f k
                  have hvi := valS_i x s f k
                  have hv64 : valS x s f k < 18446744073709551616 := by
                    have := Nat.pow_le_pow_right (show 0 < 2 by decide) hw1.2
                    have h4 : (2 : Nat) ^ 64 = 18446744073709551616 := by decide
                    omega
                  have cs := c29 x G g1 (buK x s f k) hku (x.fs.getD f default).nm k (valS x s f k) hv64
                  rw [setR_at G hkl hf2 (by omega) hvl] at cs
                  have hbs := buK_s x s f k
                  have hpl := putE_len x (buK x s f k) f k (valS x s f k)
                  rw [hkl] at hpl
                  have hsd := sdI_n s (offF x.fs f + k)
                  have hadd : offF x.fs f + (k + 1) = offF x.fs f + k + 1 := rfl
                  by_cases hw64 : wdE x f < 64
                  · have hcut : cutS (nxS (sdI s (offF x.fs f + k))) (wdE x f) = nxS (sdI s (offF x.fs f + k)) / 2 ^ (64 - wdE x f) := cutS_t hw64
                    have h64 : (64 - (wdE x f : Int)).toNat = 64 - wdE x f := by omega
                    rw [hvi, hcut] at cs
                    repeat' (first
                      | (with_reducible first | refine r_seq ?_ | refine r_block ?_ | refine fork_not ?_ | refine fork_and ?_ | refine fork_or ?_ | refine chk_ok (by kernel_rfl) ?_)
                      | ((with_reducible first | refine fork_dec ?_ ?_ | refine fork_eq ?_ ?_ | refine fork_ne ?_ ?_ | refine fork_intro ?_ ?_) <;> intro h <;> try (exfalso; first | omega | exact h rfl | (revert h; decide) | (cases h; done)))
                      | ((with_reducible show False); omega)
                      | ((first | (with_reducible first | refine r_exit ?_ | refine r_skip ?_ | refine r_cond ?_ | refine r_region ?_ | show VX _ _ _ _ _ _ _ | show vstep _ _ _ _ _ | show vskip _ _ _ | show withV _ _) | ((with_reducible show endA _ _ _ _ _ _ _); simp -implicitDefEqProofs only [endA])); simp -dsimp -implicitDefEqProofs (maxSteps := 1000000) (disch := first | omega | (simp only [LN, nxS_e, hkl, hpl, h64]; omega)) only [go_sem, Int.reduceToNat, Int.reducePow, Nat.reducePow, Int.reduceAdd, Int.reduceMul, Int.reduceSub, Int.reduceNeg, Nat.reduceAdd, Nat.reduceMul, Nat.reduceSub, Nat.reduceEqDiff, Nat.reduceLT, Nat.reduceLeDiff, nxS_e, hkl, hpl, h64])
                      | ((first | (with_reducible refine r_ret ?_) | (with_reducible refine pick_viewG default (by first | omega | (simp only [LN, nxS_e, hkl, hpl, h64]; omega)) (by first | omega | (simp only [LN, nxS_e, hkl, hpl, h64]; omega)) ?_) | (with_reducible refine pick_own default (by first | omega | (simp only [LN, nxS_e, hkl, hpl, h64]; omega)) ?_) | (with_reducible refine And.intro (by first | decide | omega | assumption | (simp only [LN, nxS_e, hkl, hpl, h64]; omega)) ?_) | ((with_reducible apply callK_pure); (exact cs)) | ((with_reducible apply callF_lend); (exact cs); rfl) | ((with_reducible apply callF_go); (exact cs)) | ((with_reducible show pickE _ _ _); first | refine pickE_intro _ ⟨by omega, by rfl⟩ ?_ | refine pickE_intro _ (by rfl) ?_) | fail); try simp -dsimp -implicitDefEqProofs (maxSteps := 1000000) (disch := first | omega | (simp only [LN, nxS_e, hkl, hpl, h64]; omega)) only [go_sem, Int.reduceToNat, Int.reducePow, Nat.reducePow, Int.reduceAdd, Int.reduceMul, Int.reduceSub, Int.reduceNeg, Nat.reduceAdd, Nat.reduceMul, Nat.reduceSub, Nat.reduceEqDiff, Nat.reduceLT, Nat.reduceLeDiff, nxS_e, hkl, hpl, h64])
                      | fail)
                    all_goals first | omega | (refine loopQ_next (k + 1) ?_ ?_ ?_; (omega); (show _ < _; omega); (simp -dsimp -implicitDefEqProofs (maxSteps := 1000000) (disch := first | omega | (simp only [LN, hbs, hsd, hadd]; omega)) only [go_sem, Int.reduceToNat, Int.reducePow, Nat.reducePow, Int.reduceAdd, Int.reduceMul, Int.reduceSub, Int.reduceNeg, Nat.reduceAdd, Nat.reduceMul, Nat.reduceSub, Nat.reduceEqDiff, Nat.reduceLT, Nat.reduceLeDiff, hbs, hsd, hadd]; try trivial)) | trace_state
                  · have hcut := cutS_f (s := nxS (sdI s (offF x.fs f + k))) hw64
                    rw [hvi, hcut] at cs
                    repeat' (first
                      | (with_reducible first | refine r_seq ?_ | refine r_block ?_ | refine fork_not ?_ | refine fork_and ?_ | refine fork_or ?_ | refine chk_ok (by kernel_rfl) ?_)
                      | ((with_reducible first | refine fork_dec ?_ ?_ | refine fork_eq ?_ ?_ | refine fork_ne ?_ ?_ | refine fork_intro ?_ ?_) <;> intro h <;> try (exfalso; first | omega | exact h rfl | (revert h; decide) | (cases h; done)))
                      | ((with_reducible show False); omega)
                      | ((first | (with_reducible first | refine r_exit ?_ | refine r_skip ?_ | refine r_cond ?_ | refine r_region ?_ | show VX _ _ _ _ _ _ _ | show vstep _ _ _ _ _ | show vskip _ _ _ | show withV _ _) | ((with_reducible show endA _ _ _ _ _ _ _); simp -implicitDefEqProofs only [endA])); simp -dsimp -implicitDefEqProofs (maxSteps := 1000000) (disch := first | omega | (simp only [LN, nxS_e, hkl, hpl]; omega)) only [go_sem, Int.reduceToNat, Int.reducePow, Nat.reducePow, Int.reduceAdd, Int.reduceMul, Int.reduceSub, Int.reduceNeg, Nat.reduceAdd, Nat.reduceMul, Nat.reduceSub, Nat.reduceEqDiff, Nat.reduceLT, Nat.reduceLeDiff, nxS_e, hkl, hpl])
                      | ((first | (with_reducible refine r_ret ?_) | (with_reducible refine pick_viewG default (by first | omega | (simp only [LN, nxS_e, hkl, hpl]; omega)) (by first | omega | (simp only [LN, nxS_e, hkl, hpl]; omega)) ?_) | (with_reducible refine pick_own default (by first | omega | (simp only [LN, nxS_e, hkl, hpl]; omega)) ?_) | (with_reducible refine And.intro (by first | decide | omega | assumption | (simp only [LN, nxS_e, hkl, hpl]; omega)) ?_) | ((with_reducible apply callK_pure); (exact cs)) | ((with_reducible apply callF_lend); (exact cs); rfl) | ((with_reducible apply callF_go); (exact cs)) | ((with_reducible show pickE _ _ _); first | refine pickE_intro _ ⟨by omega, by rfl⟩ ?_ | refine pickE_intro _ (by rfl) ?_) | fail); try simp -dsimp -implicitDefEqProofs (maxSteps := 1000000) (disch := first | omega | (simp only [LN, nxS_e, hkl, hpl]; omega)) only [go_sem, Int.reduceToNat, Int.reducePow, Nat.reducePow, Int.reduceAdd, Int.reduceMul, Int.reduceSub, Int.reduceNeg, Nat.reduceAdd, Nat.reduceMul, Nat.reduceSub, Nat.reduceEqDiff, Nat.reduceLT, Nat.reduceLeDiff, nxS_e, hkl, hpl])
                      | fail)
                    all_goals first | omega | (refine loopQ_next (k + 1) ?_ ?_ ?_; (omega); (show _ < _; omega); (simp -dsimp -implicitDefEqProofs (maxSteps := 1000000) (disch := first | omega | (simp only [LN, hbs, hsd, hadd]; omega)) only [go_sem, Int.reduceToNat, Int.reducePow, Nat.reducePow, Int.reduceAdd, Int.reduceMul, Int.reduceSub, Int.reduceNeg, Nat.reduceAdd, Nat.reduceMul, Nat.reduceSub, Nat.reduceEqDiff, Nat.reduceLT, Nat.reduceLeDiff, hbs, hsd, hadd]; try trivial)) | trace_state
                · obtain rfl : k = c := by omega
                  have hbf := buF_s x s f
                  have hof := offF_s x.fs f
                  rw [hc, Int.toNat_natCast] at hbf hof
                  repeat' (first
                    | (with_reducible first | refine r_seq ?_ | refine r_block ?_ | refine fork_not ?_ | refine fork_and ?_ | refine fork_or ?_ | refine chk_ok (by kernel_rfl) ?_)
                    | ((with_reducible first | refine fork_dec ?_ ?_ | refine fork_eq ?_ ?_ | refine fork_ne ?_ ?_ | refine fork_intro ?_ ?_) <;> intro h <;> try (exfalso; first | omega | exact h rfl | (revert h; decide) | (cases h; done)))
                    | ((with_reducible show False); omega)
                    | ((first | (with_reducible first | refine r_exit ?_ | refine r_skip ?_ | refine r_cond ?_ | refine r_region ?_ | show VX _ _ _ _ _ _ _ | show vstep _ _ _ _ _ | show vskip _ _ _ | show withV _ _) | ((with_reducible show endA _ _ _ _ _ _ _); simp -implicitDefEqProofs only [endA])); simp -dsimp -implicitDefEqProofs (maxSteps := 1000000) (disch := first | omega | (simp only [LN, hsl]; omega)) only [go_sem, Int.reduceToNat, Int.reducePow, Nat.reducePow, Int.reduceAdd, Int.reduceMul, Int.reduceSub, Int.reduceNeg, Nat.reduceAdd, Nat.reduceMul, Nat.reduceSub, Nat.reduceEqDiff, Nat.reduceLT, Nat.reduceLeDiff, hsl])
                    | ((first | (with_reducible refine r_ret ?_) | (with_reducible refine pick_viewG default (by first | omega | (simp only [LN, hsl]; omega)) (by first | omega | (simp only [LN, hsl]; omega)) ?_) | (with_reducible refine pick_own default (by first | omega | (simp only [LN, hsl]; omega)) ?_) | (with_reducible refine And.intro (by first | decide | omega | assumption | (simp only [LN, hsl]; omega)) ?_) | ((with_reducible show pickE _ _ _); first | refine pickE_intro _ ⟨by omega, by rfl⟩ ?_ | refine pickE_intro _ (by rfl) ?_) | fail); try simp -dsimp -implicitDefEqProofs (maxSteps := 1000000) (disch := first | omega | (simp only [LN, hsl]; omega)) only [go_sem, Int.reduceToNat, Int.reducePow, Nat.reducePow, Int.reduceAdd, Int.reduceMul, Int.reduceSub, Int.reduceNeg, Nat.reduceAdd, Nat.reduceMul, Nat.reduceSub, Nat.reduceEqDiff, Nat.reduceLT, Nat.reduceLeDiff, hsl])
                    | fail)
                  all_goals first | omega | (refine loopQ_next (f + 1) ?_ ?_ ?_; (omega); (show _ < _; omega); (simp -dsimp -implicitDefEqProofs (maxSteps := 1000000) (disch := first | omega | (simp only [LN, hbf, hof, hsl]; omega)) only [go_sem, Int.reduceToNat, Int.reducePow, Nat.reducePow, Int.reduceAdd, Int.reduceMul, Int.reduceSub, Int.reduceNeg, Nat.reduceAdd, Nat.reduceMul, Nat.reduceSub, Nat.reduceEqDiff, Nat.reduceLT, Nat.reduceLeDiff, hbf, hof, hsl]; try trivial)) | trace_state
            · obtain rfl : f = x.fs.length := by omega
              have ct := c25 x (wideX x) G GY g1 (by rw [wide_len]; exact g1) (buF x s x.fs.length) hfu
              rw [there_ok G GY hfl] at ct
              have hthu := (cvF_ok x (wideX x) (buF x s x.fs.length) x.fs.length).2
              have cb := c25 (wideX x) x GY G (by rw [wide_len]; exact g1) g1 _ hthu
              rw [back_ok G GY (val := valS x s) (fun f k _ => valS_lt x s f k) buF_e] at cb
              repeat' (first
                | (with_reducible first | refine r_seq ?_ | refine r_block ?_ | refine fork_not ?_ | refine fork_and ?_ | refine fork_or ?_ | refine chk_ok (by kernel_rfl) ?_)
                | ((with_reducible first | refine fork_dec ?_ ?_ | refine fork_eq ?_ ?_ | refine fork_ne ?_ ?_ | refine fork_intro ?_ ?_) <;> intro h <;> try (exfalso; first | omega | exact h rfl | (revert h; decide) | (cases h; done)))
                | ((with_reducible show False); omega)
                | ((first | (with_reducible first | refine r_exit ?_ | refine r_skip ?_ | refine r_cond ?_ | refine r_region ?_ | show VX _ _ _ _ _ _ _ | show vstep _ _ _ _ _ | show vskip _ _ _ | show withV _ _) | ((with_reducible show endA _ _ _ _ _ _ _); simp -implicitDefEqProofs only [endA])); simp -dsimp -implicitDefEqProofs (maxSteps := 1000000) (disch := first | omega | (simp only [LN, hsl, laG]; omega)) only [go_sem, Int.reduceToNat, Int.reducePow, Nat.reducePow, Int.reduceAdd, Int.reduceMul, Int.reduceSub, Int.reduceNeg, Nat.reduceAdd, Nat.reduceMul, Nat.reduceSub, Nat.reduceEqDiff, Nat.reduceLT, Nat.reduceLeDiff, hsl, laG])
                | ((first | (with_reducible refine r_ret ?_) | (with_reducible refine pick_viewG default (by first | omega | (simp only [LN, hsl, laG]; omega)) (by first | omega | (simp only [LN, hsl, laG]; omega)) ?_) | (with_reducible refine pick_own default (by first | omega | (simp only [LN, hsl, laG]; omega)) ?_) | (with_reducible refine And.intro (by first | decide | omega | assumption | (simp only [LN, hsl, laG]; omega)) ?_) | ((with_reducible apply callK_pure); (first | exact ct | exact cb | exact c27 _ (by omega) | fail)) | ((with_reducible apply callF_lend); (first | exact ct | exact cb | exact c27 _ (by omega) | fail); rfl) | ((with_reducible apply callF_go); (first | exact ct | exact cb | exact c27 _ (by omega) | fail)) | ((with_reducible show pickE _ _ _); first | refine pickE_intro _ ⟨by omega, by rfl⟩ ?_ | refine pickE_intro _ (by rfl) ?_) | fail); try simp -dsimp -implicitDefEqProofs (maxSteps := 1000000) (disch := first | omega | (simp only [LN, hsl, laG]; omega)) only [go_sem, Int.reduceToNat, Int.reducePow, Nat.reducePow, Int.reduceAdd, Int.reduceMul, Int.reduceSub, Int.reduceNeg, Nat.reduceAdd, Nat.reduceMul, Nat.reduceSub, Nat.reduceEqDiff, Nat.reduceLT, Nat.reduceLeDiff, hsl, laG])
                | fail)
              all_goals first | rfl | omega | (simp; done) | trace_state
        · have hlY := lay_bad (x := wideX x) (by omega)
          rw [he, hlY] at cw
          repeat' (first
            | (with_reducible first | refine r_seq ?_ | refine r_block ?_ | refine fork_not ?_ | refine fork_and ?_ | refine fork_or ?_ | refine chk_ok (by kernel_rfl) ?_)
            | ((with_reducible first | refine fork_dec ?_ ?_ | refine fork_eq ?_ ?_ | refine fork_ne ?_ ?_ | refine fork_intro ?_ ?_) <;> intro h <;> try (exfalso; first | omega | exact h rfl | (revert h; decide) | (cases h; done)))
            | ((with_reducible show False); omega)
            | ((first | (with_reducible first | refine r_exit ?_ | refine r_skip ?_ | refine r_cond ?_ | refine r_region ?_ | show VX _ _ _ _ _ _ _ | show vstep _ _ _ _ _ | show vskip _ _ _ | show withV _ _) | ((with_reducible show endA _ _ _ _ _ _ _); simp -implicitDefEqProofs only [endA])); simp -dsimp -implicitDefEqProofs (maxSteps := 1000000) (disch := first | omega | (simp only [LN, hwl]; omega)) only [go_sem, Int.reduceToNat, Int.reducePow, Nat.reducePow, Int.reduceAdd, Int.reduceMul, Int.reduceSub, Int.reduceNeg, Nat.reduceAdd, Nat.reduceMul, Nat.reduceSub, Nat.reduceEqDiff, Nat.reduceLT, Nat.reduceLeDiff, hwl])
            | ((first | (with_reducible refine r_ret ?_) | (with_reducible refine pick_viewG default (by first | omega | (simp only [LN, hwl]; omega)) (by first | omega | (simp only [LN, hwl]; omega)) ?_) | (with_reducible refine pick_own default (by first | omega | (simp only [LN, hwl]; omega)) ?_) | (with_reducible refine And.intro (by first | decide | omega | assumption | (simp only [LN, hwl]; omega)) ?_) | ((with_reducible apply callK_pure); (exact cw)) | ((with_reducible apply callF_lend); (exact cw); rfl) | ((with_reducible apply callF_go); (exact cw)) | ((with_reducible show pickE _ _ _); first | refine pickE_intro _ ⟨by omega, by rfl⟩ ?_ | refine pickE_intro _ (by rfl) ?_) | fail); try simp -dsimp -implicitDefEqProofs (maxSteps := 1000000) (disch := first | omega | (simp only [LN, hwl]; omega)) only [go_sem, Int.reduceToNat, Int.reducePow, Nat.reducePow, Int.reduceAdd, Int.reduceMul, Int.reduceSub, Int.reduceNeg, Nat.reduceAdd, Nat.reduceMul, Nat.reduceSub, Nat.reduceEqDiff, Nat.reduceLT, Nat.reduceLeDiff, hwl])
            | fail)
          all_goals first | rfl | omega | (simp; done) | trace_state
  · repeat' (first
      | (with_reducible first | refine r_seq ?_ | refine r_block ?_ | refine fork_not ?_ | refine fork_and ?_ | refine fork_or ?_ | refine chk_ok (by kernel_rfl) ?_)
      | ((with_reducible first | refine fork_dec ?_ ?_ | refine fork_eq ?_ ?_ | refine fork_ne ?_ ?_ | refine fork_intro ?_ ?_) <;> intro h <;> try (exfalso; first | omega | exact h rfl | (revert h; decide) | (cases h; done)))
      | ((with_reducible show False); omega)
      | ((first | (with_reducible first | refine r_exit ?_ | refine r_skip ?_ | refine r_cond ?_ | refine r_region ?_ | show VX _ _ _ _ _ _ _ | show vstep _ _ _ _ _ | show vskip _ _ _ | show withV _ _) | ((with_reducible show endA _ _ _ _ _ _ _); simp -implicitDefEqProofs only [endA])); simp -dsimp -implicitDefEqProofs (maxSteps := 1000000) (disch := first | omega | (simp only [LN, hgx]; omega)) only [go_sem, Int.reduceToNat, Int.reducePow, Nat.reducePow, Int.reduceAdd, Int.reduceMul, Int.reduceSub, Int.reduceNeg, Nat.reduceAdd, Nat.reduceMul, Nat.reduceSub, Nat.reduceEqDiff, Nat.reduceLT, Nat.reduceLeDiff, hgx])
      | ((first | (with_reducible refine r_ret ?_) | (with_reducible refine pick_viewG default (by first | omega | (simp only [LN, hgx]; omega)) (by first | omega | (simp only [LN, hgx]; omega)) ?_) | (with_reducible refine pick_own default (by first | omega | (simp only [LN, hgx]; omega)) ?_) | (with_reducible refine And.intro (by first | decide | omega | assumption | (simp only [LN, hgx]; omega)) ?_) | ((with_reducible apply callK_pure); (first | exact c12 | exact c13 x hlen | exact c14 x (by omega) hr.ty | fail)) | ((with_reducible apply callF_lend); (first | exact c12 | exact c13 x hlen | exact c14 x (by omega) hr.ty | fail); rfl) | ((with_reducible apply callF_go); (first | exact c12 | exact c13 x hlen | exact c14 x (by omega) hr.ty | fail)) | ((with_reducible show pickE _ _ _); first | refine pickE_intro _ ⟨by omega, by rfl⟩ ?_ | refine pickE_intro _ (by rfl) ?_) | fail); try simp -dsimp -implicitDefEqProofs (maxSteps := 1000000) (disch := first | omega | (simp only [LN, hgx]; omega)) only [go_sem, Int.reduceToNat, Int.reducePow, Nat.reducePow, Int.reduceAdd, Int.reduceMul, Int.reduceSub, Int.reduceNeg, Nat.reduceAdd, Nat.reduceMul, Nat.reduceSub, Nat.reduceEqDiff, Nat.reduceLT, Nat.reduceLeDiff, hgx])
      | fail)
    all_goals first | rfl | omega | (simp [hex]; done) | trace_state
end Go.Proofs.YtlkffmmgcoiniaaDoor
