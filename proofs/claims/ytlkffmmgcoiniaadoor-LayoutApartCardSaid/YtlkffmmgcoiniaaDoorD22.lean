/- Contracts of functions of this program, and the plain facts that they rest on. No conditions. -/
import Derived.Test.YtlkffmmgcoiniaaDoorD21
set_option linter.unusedSimpArgs false
set_option linter.unusedVariables false
namespace Go.Proofs.YtlkffmmgcoiniaaDoor
open Go Go.Ab
attribute [local irreducible] callK callF loopQ vstep vskip pickE hideP
set_option maxRecDepth 100000
attribute [local go_sem] eF rF eS eP eX rX eQ eL eN eW
/-- A place as one number. -/
def lin (p : Nat × Nat) : Nat := 64 * p.1 + p.2
theorem lin_norm {w : Nat} {p : Nat × Nat} (hp : p.2 ≤ 64) : lin p ≤ lin (normP w p) := by
  unfold normP lin; split
  · show _ ≤ 64 * (p.1 + 1) + 0; omega
  · exact Nat.le_refl _
theorem lin_elem {w : Nat} (hw : WOk w) {p : Nat × Nat} (hp : p.2 ≤ 64) (k : Nat) : lin (elemP w p k) + w = lin (runP w p (k + 1)) := by
  rw [run_step hw hp]; unfold lin; simp only []; omega
theorem lin_run_elem {w : Nat} (hw : WOk w) {p : Nat × Nat} (hp : p.2 ≤ 64) (k : Nat) : lin (runP w p k) ≤ lin (elemP w p k) := by
  rw [← norm_run hw hp]; exact lin_norm (run_ok hw hp k).1
theorem lin_run_mono {w : Nat} (hw : WOk w) {p : Nat × Nat} (hp : p.2 ≤ 64) (k : Nat) : ∀ d, lin (runP w p k) ≤ lin (runP w p (k + d))
  | 0 => Nat.le_refl _
  | d + 1 => by
    have h1 := lin_run_mono hw hp k d
    have h2 := lin_run_elem hw hp (k + d)
    have h3 := lin_elem hw hp (k + d)
    rw [← Nat.add_assoc]; omega
theorem lin_elem_lt {w : Nat} (hw : WOk w) {p : Nat × Nat} (hp : p.2 ≤ 64) {i j : Nat} (h : i < j) : lin (elemP w p i) + w ≤ lin (elemP w p j) := by
  have h1 := lin_elem hw hp i
  have h2 := lin_run_mono hw hp (i + 1) (j - (i + 1))
  rw [show i + 1 + (j - (i + 1)) = j by omega] at h2
  have h3 := lin_run_elem hw hp j
  omega
theorem lin_pos_mono {fs : List F} (hc : CntOk fs) {i : Nat} : ∀ {n : Nat}, i ≤ n → n ≤ fs.length → lin (posTo fs i) ≤ lin (posTo fs n)
  | 0, h1, _ => by obtain rfl : i = 0 := by omega
                   exact Nat.le_refl _
  | n + 1, h1, h2 => by
    rcases Nat.lt_or_ge i (n + 1) with h3 | h3
    · have ih := lin_pos_mono hc (i := i) (n := n) (by omega) (by omega)
      have hp := (posTo_ok hc n (by omega)).1
      have := lin_run_mono (wok (fs.getD n default).ty) hp 0 (fs.getD n default).cnt.toNat
      rw [runP_zero, Nat.zero_add] at this
      rw [posTo, next_run (hc n (by omega)).1]
      omega
    · obtain rfl : i = n + 1 := by omega
      exact Nat.le_refl _
theorem posE_lt {x : X} (hc : CntOk x.fs) {p q i j : Nat} (hpq : p < q) (hq : q < x.fs.length) (hi : (i : Int) < (x.fs.getD p default).cnt) : lin (posE x p i) + wdE x p ≤ lin (posE x q j) := by
  have hp1 := (posTo_ok hc p (by omega)).1
  have hq1 := (posTo_ok hc q (by omega)).1
  have h1 := lin_elem (wok (x.fs.getD p default).ty) hp1 i
  have h2 := lin_run_mono (wok (x.fs.getD p default).ty) hp1 (i + 1) ((x.fs.getD p default).cnt.toNat - (i + 1))
  rw [show i + 1 + ((x.fs.getD p default).cnt.toNat - (i + 1)) = (x.fs.getD p default).cnt.toNat by omega, ← next_run (hc p (by omega)).1] at h2
  have h3 := lin_pos_mono hc (i := p + 1) (n := q) (by omega) (by omega)
  have h4 := lin_run_mono (wok (x.fs.getD q default).ty) hq1 0 j
  rw [runP_zero, Nat.zero_add] at h4
  have h5 := lin_run_elem (wok (x.fs.getD q default).ty) hq1 j
  have h6 : posTo x.fs (p + 1) = nextM (posTo x.fs p) (x.fs.getD p default) := rfl
  rw [h6] at h3
  show lin (elemP _ _ _) + wN _ ≤ lin (elemP _ _ _)
  omega
theorem posE_apart {x : X} (hc : CntOk x.fs) {p q i j : Nat} (hp : p < x.fs.length) (hq : q < x.fs.length) (hi : (i : Int) < (x.fs.getD p default).cnt) (hj : (j : Int) < (x.fs.getD q default).cnt)
    (hne : ¬ (p = q ∧ i = j)) (hw : (posE x p i).1 = (posE x q j).1) : (posE x p i).2 + wdE x p ≤ (posE x q j).2 ∨ (posE x q j).2 + wdE x q ≤ (posE x p i).2 := by
  have key : lin (posE x p i) + wdE x p ≤ lin (posE x q j) ∨ lin (posE x q j) + wdE x q ≤ lin (posE x p i) := by
    rcases Nat.lt_trichotomy p q with h | h | h
    · exact .inl (posE_lt hc h hq hi)
    · subst h
      have hp1 := (posTo_ok hc p (by omega)).1
      rcases Nat.lt_trichotomy i j with h2 | h2 | h2
      · exact .inl (lin_elem_lt (wok _) hp1 h2)
      · exact absurd ⟨rfl, h2⟩ hne
      · exact .inr (lin_elem_lt (wok _) hp1 h2)
    · exact .inr (posE_lt hc h hp hj)
  unfold lin at key
  omega
/-- The words with an element set. -/
def putE (x : X) (ws : List Nat) (j k v : Nat) : List Nat := ws.set (posE x j k).1 (setB (ws.getD (posE x j k).1 default) (posE x j k).2 (wdE x j) v)
def getE (x : X) (ws : List Nat) (j k : Nat) : Nat := getB (ws.getD (posE x j k).1 default) (posE x j k).2 (wdE x j)
theorem putE_len (x : X) (ws : List Nat) (j k v : Nat) : (putE x ws j k v).length = ws.length := by simp [putE]
theorem putE_u {x : X} {ws : List Nat} (hu : U64 ws) (j k v : Nat) : U64 (putE x ws j k v) := by
  intro i
  unfold putE
  rw [List.getD_eq_getElem?_getD, List.getElem?_set]
  split
  · split
    · exact setB_lt _ _ _ _
    · exact (show (0 : Nat) < _ by decide)
  · rw [← List.getD_eq_getElem?_getD]; exact hu i
theorem getE_lt (x : X) (ws : List Nat) (j k : Nat) : getE x ws j k < 2 ^ wdE x j := getB_lt _ _ _
theorem wdE_le (x : X) (j : Nat) : 1 ≤ wdE x j ∧ wdE x j ≤ 64 := wok_1 (wok _)
theorem get_put_same {x : X} (hc : CntOk x.fs) {ws : List Nat} (hlen : ws.length = wordsM x) {j k v : Nat} (hj : j < x.fs.length) (hk : (k : Int) < (x.fs.getD j default).cnt) (hv : v < 2 ^ wdE x j) : getE x (putE x ws j k v) j k = v := by
  have hin := posE_in hc hj hk
  unfold getE putE
  rw [List.getD_eq_getElem?_getD, List.getElem?_set, if_pos rfl, if_pos (by omega)]
  exact get_set_same (posE_fit hc hj k) hv
theorem get_put_other {x : X} (hc : CntOk x.fs) {ws : List Nat} (hlen : ws.length = wordsM x) {p i q j v : Nat} (hp : p < x.fs.length) (hi : (i : Int) < (x.fs.getD p default).cnt) (hq : q < x.fs.length) (hj : (j : Int) < (x.fs.getD q default).cnt) (hne : ¬ (p = q ∧ i = j)) :
    getE x (putE x ws p i v) q j = getE x ws q j := by
  have hin := posE_in hc hp hi
  unfold getE putE
  rw [List.getD_eq_getElem?_getD, List.getElem?_set]
  by_cases hw : (posE x p i).1 = (posE x q j).1
  · rw [if_pos hw, if_pos (by omega), ← hw]
    exact get_set_other (posE_fit hc hp i) (posE_fit hc hq j) (posE_apart hc hp hq hi hj hne hw)
  · rw [if_neg hw, ← List.getD_eq_getElem?_getD]
theorem fnd_at {x : X} (G : Good x) {j : Nat} (hj : j < x.fs.length) : fnd x (x.fs.getD j default).nm = some j := fnd_first hj rfl fun _ hk => names_ne G.err hj hk
theorem getR_at {x : X} (G : Good x) {ws : List Nat} (hlen : ws.length = wordsM x) {j k : Nat} (hj : j < x.fs.length) (hk : (k : Int) < (x.fs.getD j default).cnt) : getR x ws (x.fs.getD j default).nm k = (getE x ws j k, 0) := by
  have := (find_0 (i := (k : Int)) hlen (fnd_at G hj) (by omega)).2.1
  rw [Int.toNat_natCast] at this; exact this
theorem setR_at {x : X} (G : Good x) {ws : List Nat} (hlen : ws.length = wordsM x) {j k v : Nat} (hj : j < x.fs.length) (hk : (k : Int) < (x.fs.getD j default).cnt) (hv : v < 2 ^ wdE x j) : setR x ws (x.fs.getD j default).nm k v = (putE x ws j k v, 0) := by
  have := (find_0 (i := (k : Int)) hlen (fnd_at G hj) (by omega)).2.2 v
  rw [Int.toNat_natCast, if_neg (by omega)] at this; exact this
theorem c20w {x : X} (G : Good x) : PCalls Tryd.prog 20 [eL (laG x)] (.v (.int .i64 (wordsM x))) := by rw [← words_e]; exact c20 (laG x)
attribute [local irreducible] slotAt posE wdE wordsM getB setB mskN plAt getR setR putE getE
def w5 : Nat := 6510615555426900570
theorem w5_u (n : Nat) : U64 (List.replicate n w5) := by
  intro i
  rw [List.getD_eq_getElem?_getD, List.getElem?_replicate]; split <;> (show (_ : Nat) < _; decide)
def wsF (n k : Nat) : List Nat := List.replicate k w5 ++ List.replicate (n - k) 0
theorem wsF_0 (n : Nat) : (wsF n 0).map eW = List.replicate n (.v (.int .u64 0)) := by unfold wsF; rw [List.replicate_zero, List.nil_append, Nat.sub_zero, map_rep]
theorem wsF_len {n k : Nat} (h : k ≤ n) : (wsF n k).length = n := by simp [wsF]; omega
theorem wsF_n (n : Nat) : wsF n n = List.replicate n w5 := by simp [wsF]
theorem wsF_set {n k : Nat} (h : k < n) : ((wsF n k).map eW).set k (.v (.int .u64 6510615555426900570)) = (wsF n (k + 1)).map eW := by
  have e : (wsF n k).set k w5 = wsF n (k + 1) := by
    unfold wsF
    obtain ⟨m, hm⟩ : ∃ m, n - k = m + 1 := ⟨n - k - 1, by omega⟩
    rw [List.set_append_right _ _ (by simp), hm, List.replicate_succ, List.length_replicate, Nat.sub_self, List.set_cons_zero, show n - (k + 1) = m by omega, List.replicate_succ', List.append_assoc]
    rfl
  rw [← e, List.map_set]; rfl
attribute [local irreducible] wsF
set_option maxRecDepth 100000 in
set_option maxHeartbeats 4000000 in
theorem c7 (x : X) (hr : Rd x) (u m : Int) (hu : 0 ≤ u ∧ u ≤ 65535) (hm : 0 ≤ m ∧ m ≤ 65535) : PCalls Tryd.prog 7 [eX x, .v (.int .u16 u), .v (.int .u16 m)] (.v (.bool true)) := by
  refine pcalls_of (E := E) (fn := Tryd.f7) 202 [.tmp 6] rfl rfl rfl rfl (by decide) rfl ?_
  have hlen := hr.len
  by_cases hgx : greatM x = true
  · repeat' (first
      | (with_reducible first | refine r_seq ?_ | refine r_block ?_ | refine fork_not ?_ | refine fork_and ?_ | refine fork_or ?_ | refine chk_ok (by kernel_rfl) ?_)
      | ((with_reducible first | refine fork_dec ?_ ?_ | refine fork_eq ?_ ?_ | refine fork_ne ?_ ?_ | refine fork_intro ?_ ?_) <;> intro h <;> try (exfalso; first | omega | exact h rfl | (revert h; decide) | (cases h; done)))
      | ((with_reducible show False); omega)
      | ((first | (with_reducible first | refine r_exit ?_ | refine r_skip ?_ | refine r_cond ?_ | refine r_region ?_ | show VX _ _ _ _ _ _ _ | show vstep _ _ _ _ _ | show vskip _ _ _ | show withV _ _) | ((with_reducible show endA _ _ _ _ _ _ _); simp -implicitDefEqProofs only [endA])); simp -dsimp -implicitDefEqProofs (maxSteps := 1000000) (disch := first | omega | (simp only [LN, hgx]; omega)) only [go_sem, Int.reduceToNat, Int.reducePow, Nat.reducePow, Int.reduceAdd, Int.reduceMul, Int.reduceSub, Int.reduceNeg, Nat.reduceAdd, Nat.reduceMul, Nat.reduceSub, Nat.reduceEqDiff, Nat.reduceLT, Nat.reduceLeDiff, hgx])
      | ((first | (with_reducible refine r_ret ?_) | (with_reducible refine pick_viewG default (by first | omega | (simp only [LN, hgx]; omega)) (by first | omega | (simp only [LN, hgx]; omega)) ?_) | (with_reducible refine pick_own default (by first | omega | (simp only [LN, hgx]; omega)) ?_) | (with_reducible refine And.intro (by first | decide | omega | assumption | (simp only [LN, hgx]; omega)) ?_) | ((with_reducible apply callK_pure); (first | exact c12 | exact c13 x hlen | fail)) | ((with_reducible apply callF_lend); (first | exact c12 | exact c13 x hlen | fail); rfl) | ((with_reducible apply callF_go); (first | exact c12 | exact c13 x hlen | fail)) | ((with_reducible show pickE _ _ _); first | refine pickE_intro _ ⟨by omega, by rfl⟩ ?_ | refine pickE_intro _ (by rfl) ?_) | fail); try simp -dsimp -implicitDefEqProofs (maxSteps := 1000000) (disch := first | omega | (simp only [LN, hgx]; omega)) only [go_sem, Int.reduceToNat, Int.reducePow, Nat.reducePow, Int.reduceAdd, Int.reduceMul, Int.reduceSub, Int.reduceNeg, Nat.reduceAdd, Nat.reduceMul, Nat.reduceSub, Nat.reduceEqDiff, Nat.reduceLT, Nat.reduceLeDiff, hgx])
      | fail)
    all_goals first | rfl | omega | (simp; done) | trace_state
  · have hgx : greatM x = false := by simpa using hgx
    obtain ⟨g1, g2, g3⟩ := greatM_f hgx
    by_cases he : newE x = 0
    · have G := good_of he
      have hlay := G.lay
      have hsl := slotsTo_len x.fs x.fs.length
      have hbig : wordsM x ≤ 60 := by have := G.fit; unfold wordsM; omega
      have hwp := words_pos x
      have hxl : 0 < x.fs.length := by have := G.arg; omega
      have hwe := words_e (x := x)
      obtain ⟨p, hp⟩ := Int.eq_ofNat_of_zero_le (Int.emod_nonneg u (show (x.fs.length : Int) ≠ 0 by omega))
      have hp1 : p < x.fs.length := by have := Int.emod_lt_of_pos u (show (0 : Int) < x.fs.length by omega); omega
      obtain ⟨q, hq⟩ := Int.eq_ofNat_of_zero_le (Int.emod_nonneg m (show (x.fs.length : Int) ≠ 0 by omega))
      have hq1 : q < x.fs.length := by have := Int.emod_lt_of_pos m (show (0 : Int) < x.fs.length by omega); omega
      have hcp := G.cnt p hp1
      have hcq := G.cnt q hq1
      obtain ⟨i, hi⟩ := Int.eq_ofNat_of_zero_le (Int.emod_nonneg u (show (x.fs.getD p default).cnt ≠ 0 by omega))
      have hi1 : (i : Int) < (x.fs.getD p default).cnt := by have := Int.emod_lt_of_pos u (show (0 : Int) < (x.fs.getD p default).cnt by omega); omega
      obtain ⟨j, hj⟩ := Int.eq_ofNat_of_zero_le (Int.emod_nonneg m (show (x.fs.getD q default).cnt ≠ 0 by omega))
      have hj1 : (j : Int) < (x.fs.getD q default).cnt := by have := Int.emod_lt_of_pos m (show (0 : Int) < (x.fs.getD q default).cnt by omega); omega
      by_cases hsame : (x.fs.getD p default).nm = (x.fs.getD q default).nm ∧ i = j
      · obtain ⟨hs1, rfl⟩ := hsame
        repeat' (first
          | (with_reducible first | refine r_seq ?_ | refine r_block ?_ | refine fork_not ?_ | refine fork_and ?_ | refine fork_or ?_ | refine chk_ok (by kernel_rfl) ?_)
          | ((with_reducible first | refine fork_dec ?_ ?_ | refine fork_eq ?_ ?_ | refine fork_ne ?_ ?_ | refine fork_intro ?_ ?_) <;> intro h <;> try (exfalso; first | omega | exact h rfl | (revert h; decide) | (cases h; done)))
          | ((with_reducible show False); omega)
          | ((first | (with_reducible first | refine r_exit ?_ | refine r_skip ?_ | refine r_cond ?_ | refine r_region ?_ | show VX _ _ _ _ _ _ _ | show vstep _ _ _ _ _ | show vskip _ _ _ | show withV _ _) | ((with_reducible show endA _ _ _ _ _ _ _); simp -implicitDefEqProofs only [endA])); simp -dsimp -implicitDefEqProofs (maxSteps := 1000000) (disch := first | omega | (simp only [LN, hgx, he, hlay, tmod_nn, hp, hq, hi, hj, hs1]; omega)) only [go_sem, Int.reduceToNat, Int.reducePow, Nat.reducePow, Int.reduceAdd, Int.reduceMul, Int.reduceSub, Int.reduceNeg, Nat.reduceAdd, Nat.reduceMul, Nat.reduceSub, Nat.reduceEqDiff, Nat.reduceLT, Nat.reduceLeDiff, hgx, he, hlay, tmod_nn, hp, hq, hi, hj, hs1])
          | ((first | (with_reducible refine r_ret ?_) | (with_reducible refine pick_viewG default (by first | omega | (simp only [LN, hgx, he, hlay, tmod_nn, hp, hq, hi, hj, hs1]; omega)) (by first | omega | (simp only [LN, hgx, he, hlay, tmod_nn, hp, hq, hi, hj, hs1]; omega)) ?_) | (with_reducible refine pick_own default (by first | omega | (simp only [LN, hgx, he, hlay, tmod_nn, hp, hq, hi, hj, hs1]; omega)) ?_) | (with_reducible refine And.intro (by first | decide | omega | assumption | (simp only [LN, hgx, he, hlay, tmod_nn, hp, hq, hi, hj, hs1]; omega)) ?_) | ((with_reducible apply callK_pure); (first | exact c12 | exact c13 x hlen | exact c14 x (by omega) hr.ty | fail)) | ((with_reducible apply callF_lend); (first | exact c12 | exact c13 x hlen | exact c14 x (by omega) hr.ty | fail); rfl) | ((with_reducible apply callF_go); (first | exact c12 | exact c13 x hlen | exact c14 x (by omega) hr.ty | fail)) | ((with_reducible show pickE _ _ _); first | refine pickE_intro _ ⟨by omega, by rfl⟩ ?_ | refine pickE_intro _ (by rfl) ?_) | fail); try simp -dsimp -implicitDefEqProofs (maxSteps := 1000000) (disch := first | omega | (simp only [LN, hgx, he, hlay, tmod_nn, hp, hq, hi, hj, hs1]; omega)) only [go_sem, Int.reduceToNat, Int.reducePow, Nat.reducePow, Int.reduceAdd, Int.reduceMul, Int.reduceSub, Int.reduceNeg, Nat.reduceAdd, Nat.reduceMul, Nat.reduceSub, Nat.reduceEqDiff, Nat.reduceLT, Nat.reduceLeDiff, hgx, he, hlay, tmod_nn, hp, hq, hi, hj, hs1])
          | fail)
        all_goals first | rfl | omega | (simp; done) | trace_state
      · repeat' (first
          | (with_reducible first | refine r_seq ?_ | refine r_block ?_ | refine fork_not ?_ | refine fork_and ?_ | refine fork_or ?_ | refine chk_ok (by kernel_rfl) ?_)
          | ((with_reducible first | refine fork_dec ?_ ?_ | refine fork_eq ?_ ?_ | refine fork_ne ?_ ?_ | refine fork_intro ?_ ?_) <;> intro h <;> try (exfalso; first | omega | exact h rfl | (revert h; decide) | (cases h; done)))
          | ((with_reducible show False); omega)
          | ((first | (with_reducible first | refine r_exit ?_ | refine r_skip ?_ | refine r_cond ?_ | refine r_region ?_ | show VX _ _ _ _ _ _ _ | show vstep _ _ _ _ _ | show vskip _ _ _ | show withV _ _) | ((with_reducible show endA _ _ _ _ _ _ _); simp -implicitDefEqProofs only [endA])); simp -dsimp -implicitDefEqProofs (maxSteps := 1000000) (disch := first | omega | (simp only [LN, hgx, he, hlay, tmod_nn, hp, hq, hi, hj, laG]; omega)) only [go_sem, Int.reduceToNat, Int.reducePow, Nat.reducePow, Int.reduceAdd, Int.reduceMul, Int.reduceSub, Int.reduceNeg, Nat.reduceAdd, Nat.reduceMul, Nat.reduceSub, Nat.reduceEqDiff, Nat.reduceLT, Nat.reduceLeDiff, hgx, he, hlay, tmod_nn, hp, hq, hi, hj, laG])
          | ((first | (with_reducible refine r_ret ?_) | (with_reducible refine pick_viewG default (by first | omega | (simp only [LN, hgx, he, hlay, tmod_nn, hp, hq, hi, hj, laG]; omega)) (by first | omega | (simp only [LN, hgx, he, hlay, tmod_nn, hp, hq, hi, hj, laG]; omega)) ?_) | (with_reducible refine pick_own default (by first | omega | (simp only [LN, hgx, he, hlay, tmod_nn, hp, hq, hi, hj, laG]; omega)) ?_) | (with_reducible refine And.intro (by first | decide | omega | assumption | (simp only [LN, hgx, he, hlay, tmod_nn, hp, hq, hi, hj, laG]; omega)) ?_) | ((with_reducible apply callK_pure); (first | exact c12 | exact c13 x hlen | exact c14 x (by omega) hr.ty | exact c20w G | fail)) | ((with_reducible apply callF_lend); (first | exact c12 | exact c13 x hlen | exact c14 x (by omega) hr.ty | exact c20w G | fail); rfl) | ((with_reducible apply callF_go); (first | exact c12 | exact c13 x hlen | exact c14 x (by omega) hr.ty | exact c20w G | fail)) | ((with_reducible show pickE _ _ _); first | refine pickE_intro _ ⟨by omega, by rfl⟩ ?_ | refine pickE_intro _ (by rfl) ?_) | fail); try simp -dsimp -implicitDefEqProofs (maxSteps := 1000000) (disch := first | omega | (simp only [LN, hgx, he, hlay, tmod_nn, hp, hq, hi, hj, laG]; omega)) only [go_sem, Int.reduceToNat, Int.reducePow, Nat.reducePow, Int.reduceAdd, Int.reduceMul, Int.reduceSub, Int.reduceNeg, Nat.reduceAdd, Nat.reduceMul, Nat.reduceSub, Nat.reduceEqDiff, Nat.reduceLT, Nat.reduceLeDiff, hgx, he, hlay, tmod_nn, hp, hq, hi, hj, laG])
          | fail)
        all_goals
          refine r_loopA (α := Nat) [7, 9, 10, 11, 12, 13, 89] (fun k b => [(90, aI k)]) (fun k b => [(13, .arr 1 ((wsF (wordsM x) k).map eW))]) (fun k => []) (fun k => k ≤ wordsM x) (fun k => wordsM x - k) (0) ?h0_1 ?hs0_1 ?I_1 ?hI_1 ?round_1
          case hI_1 => intro x; (simp -dsimp -implicitDefEqProofs (maxSteps := 1000000) (disch := first | omega | (simp only [LN]; omega)) only [go_sem, Int.reduceToNat, Int.reducePow, Nat.reducePow, Int.reduceAdd, Int.reduceMul, Int.reduceSub, Int.reduceNeg, Nat.reduceAdd, Nat.reduceMul, Nat.reduceSub, Nat.reduceEqDiff, Nat.reduceLT, Nat.reduceLeDiff]) <;> exact rfl
          case hs0_1 => refine wk_auto ?_; (simp -dsimp -implicitDefEqProofs (maxSteps := 1000000) (disch := first | omega | (simp only [LN, wsF_0]; omega)) only [go_sem, Int.reduceToNat, Int.reducePow, Nat.reducePow, Int.reduceAdd, Int.reduceMul, Int.reduceSub, Int.reduceNeg, Nat.reduceAdd, Nat.reduceMul, Nat.reduceSub, Nat.reduceEqDiff, Nat.reduceLT, Nat.reduceLeDiff, wsF_0]) <;> (try omega)
          case h0_1 => exact Nat.zero_le _
          case round_1 =>
            intro k hk
            have hlk := wsF_len hk
            by_cases hk2 : k < wordsM x
            · have hst := wsF_set hk2
              repeat' (first
                | (with_reducible first | refine r_seq ?_ | refine r_block ?_ | refine fork_not ?_ | refine fork_and ?_ | refine fork_or ?_ | refine chk_ok (by kernel_rfl) ?_)
                | ((with_reducible first | refine fork_dec ?_ ?_ | refine fork_eq ?_ ?_ | refine fork_ne ?_ ?_ | refine fork_intro ?_ ?_) <;> intro h <;> try (exfalso; first | omega | exact h rfl | (revert h; decide) | (cases h; done)))
                | ((with_reducible show False); omega)
                | ((first | (with_reducible first | refine r_exit ?_ | refine r_skip ?_ | refine r_cond ?_ | refine r_region ?_ | show VX _ _ _ _ _ _ _ | show vstep _ _ _ _ _ | show vskip _ _ _ | show withV _ _) | ((with_reducible show endA _ _ _ _ _ _ _); simp -implicitDefEqProofs only [endA])); simp -dsimp -implicitDefEqProofs (maxSteps := 1000000) (disch := first | omega | (simp only [LN, hlk]; omega)) only [go_sem, Int.reduceToNat, Int.reducePow, Nat.reducePow, Int.reduceAdd, Int.reduceMul, Int.reduceSub, Int.reduceNeg, Nat.reduceAdd, Nat.reduceMul, Nat.reduceSub, Nat.reduceEqDiff, Nat.reduceLT, Nat.reduceLeDiff, hlk])
                | ((first | (with_reducible refine r_ret ?_) | (with_reducible refine pick_viewG default (by first | omega | (simp only [LN, hlk]; omega)) (by first | omega | (simp only [LN, hlk]; omega)) ?_) | (with_reducible refine pick_own default (by first | omega | (simp only [LN, hlk]; omega)) ?_) | (with_reducible refine And.intro (by first | decide | omega | assumption | (simp only [LN, hlk]; omega)) ?_) | ((with_reducible show pickE _ _ _); first | refine pickE_intro _ ⟨by omega, by rfl⟩ ?_ | refine pickE_intro _ (by rfl) ?_) | fail); try simp -dsimp -implicitDefEqProofs (maxSteps := 1000000) (disch := first | omega | (simp only [LN, hlk]; omega)) only [go_sem, Int.reduceToNat, Int.reducePow, Nat.reducePow, Int.reduceAdd, Int.reduceMul, Int.reduceSub, Int.reduceNeg, Nat.reduceAdd, Nat.reduceMul, Nat.reduceSub, Nat.reduceEqDiff, Nat.reduceLT, Nat.reduceLeDiff, hlk])
                | fail)
              all_goals first | omega | (refine loopQ_next (k + 1) ?_ ?_ ?_; (omega); (show _ < _; omega); (simp -dsimp -implicitDefEqProofs (maxSteps := 1000000) (disch := first | omega | (simp only [LN, hst]; omega)) only [go_sem, Int.reduceToNat, Int.reducePow, Nat.reducePow, Int.reduceAdd, Int.reduceMul, Int.reduceSub, Int.reduceNeg, Nat.reduceAdd, Nat.reduceMul, Nat.reduceSub, Nat.reduceEqDiff, Nat.reduceLT, Nat.reduceLeDiff, hst]; try trivial)) | trace_state
            · obtain rfl : k = wordsM x := by omega
              have hu5 : U64 (wsF (wordsM x) (wordsM x)) := by rw [wsF_n]; exact w5_u _
              generalize wsF (wordsM x) (wordsM x) = ws at hu5 hlk
              have htk : ws.take (wordsM x) = ws := List.take_of_length_le (by omega)
              have hne : ¬ (p = q ∧ i = j) := fun h => hsame ⟨by rw [h.1], h.2⟩
              have hw1 := wdE_le x p
              have h2p : 2 ≤ 2 ^ wdE x p := by
                have := Nat.pow_le_pow_right (show 0 < 2 by decide) hw1.1
                omega
              have k1 := c28 x G g1 ws hu5 (x.fs.getD q default).nm j
              rw [getR_at G hlk hq1 hj1] at k1
              have k2 := c29 x G g1 ws hu5 (x.fs.getD p default).nm i 1 (by decide)
              rw [setR_at G hlk hp1 hi1 (by omega)] at k2
              have k3 := c29 x G g1 ws hu5 (x.fs.getD p default).nm i 0 (by decide)
              rw [setR_at G hlk hp1 hi1 (by omega)] at k3
              have k4 := c28 x G g1 (putE x ws p i 1) (putE_u hu5 _ _ _) (x.fs.getD q default).nm j
              rw [getR_at G (by rw [putE_len, hlk]) hq1 hj1, get_put_other G.cnt hlk hp1 hi1 hq1 hj1 hne] at k4
              have k5 := c28 x G g1 (putE x ws p i 0) (putE_u hu5 _ _ _) (x.fs.getD q default).nm j
              rw [getR_at G (by rw [putE_len, hlk]) hq1 hj1, get_put_other G.cnt hlk hp1 hi1 hq1 hj1 hne] at k5
              have k6 := c28 x G g1 (putE x ws p i 1) (putE_u hu5 _ _ _) (x.fs.getD p default).nm i
              rw [getR_at G (by rw [putE_len, hlk]) hp1 hi1, get_put_same G.cnt hlk hp1 hi1 (by omega)] at k6
              have k7 := c28 x G g1 (putE x ws p i 0) (putE_u hu5 _ _ _) (x.fs.getD p default).nm i
              rw [getR_at G (by rw [putE_len, hlk]) hp1 hi1, get_put_same G.cnt hlk hp1 hi1 (by omega)] at k7
              refine r_frz [7, 9, 10, 11, 12, 89, 90] (fun b => [(13, .p (.view 1 (ws.map eW)))]) fun I hI => ?_
              simp -dsimp -implicitDefEqProofs (maxSteps := 1000000) (disch := first | omega | (simp only [LN]; omega)) only [go_sem, Int.reduceToNat, Int.reducePow, Nat.reducePow, Int.reduceAdd, Int.reduceMul, Int.reduceSub, Int.reduceNeg, Nat.reduceAdd, Nat.reduceMul, Nat.reduceSub, Nat.reduceEqDiff, Nat.reduceLT, Nat.reduceLeDiff] at hI
              subst hI
              refine And.intro ?_ ?_
              · (simp -dsimp -implicitDefEqProofs (maxSteps := 1000000) (disch := first | omega | (simp only [LN, hlk, htk]; omega)) only [go_sem, Int.reduceToNat, Int.reducePow, Nat.reducePow, Int.reduceAdd, Int.reduceMul, Int.reduceSub, Int.reduceNeg, Nat.reduceAdd, Nat.reduceMul, Nat.reduceSub, Nat.reduceEqDiff, Nat.reduceLT, Nat.reduceLeDiff, hlk, htk]) <;> (try omega)
              repeat' (first
                | (with_reducible first | refine r_seq ?_ | refine r_block ?_ | refine fork_not ?_ | refine fork_and ?_ | refine fork_or ?_ | refine chk_ok (by kernel_rfl) ?_)
                | ((with_reducible first | refine fork_dec ?_ ?_ | refine fork_eq ?_ ?_ | refine fork_ne ?_ ?_ | refine fork_intro ?_ ?_) <;> intro h <;> try (exfalso; first | omega | exact h rfl | (revert h; decide) | (cases h; done)))
                | ((with_reducible show False); omega)
                | ((first | (with_reducible first | refine r_exit ?_ | refine r_skip ?_ | refine r_cond ?_ | refine r_region ?_ | show VX _ _ _ _ _ _ _ | show vstep _ _ _ _ _ | show vskip _ _ _ | show withV _ _) | ((with_reducible show endA _ _ _ _ _ _ _); simp -implicitDefEqProofs only [endA])); simp -dsimp -implicitDefEqProofs (maxSteps := 1000000) (disch := first | omega | (simp only [LN, hlk]; omega)) only [go_sem, Int.reduceToNat, Int.reducePow, Nat.reducePow, Int.reduceAdd, Int.reduceMul, Int.reduceSub, Int.reduceNeg, Nat.reduceAdd, Nat.reduceMul, Nat.reduceSub, Nat.reduceEqDiff, Nat.reduceLT, Nat.reduceLeDiff, hlk])
                | ((first | (with_reducible refine r_ret ?_) | (with_reducible refine pick_viewG default (by first | omega | (simp only [LN, hlk]; omega)) (by first | omega | (simp only [LN, hlk]; omega)) ?_) | (with_reducible refine pick_own default (by first | omega | (simp only [LN, hlk]; omega)) ?_) | (with_reducible refine And.intro (by first | decide | omega | assumption | (simp only [LN, hlk]; omega)) ?_) | ((with_reducible apply callK_pure); (first | exact k1 | exact k2 | exact k3 | exact k4 | exact k5 | exact k6 | exact k7 | fail)) | ((with_reducible apply callF_lend); (first | exact k1 | exact k2 | exact k3 | exact k4 | exact k5 | exact k6 | exact k7 | fail); rfl) | ((with_reducible apply callF_go); (first | exact k1 | exact k2 | exact k3 | exact k4 | exact k5 | exact k6 | exact k7 | fail)) | ((with_reducible show pickE _ _ _); first | refine pickE_intro _ ⟨by omega, by rfl⟩ ?_ | refine pickE_intro _ (by rfl) ?_) | fail); try simp -dsimp -implicitDefEqProofs (maxSteps := 1000000) (disch := first | omega | (simp only [LN, hlk]; omega)) only [go_sem, Int.reduceToNat, Int.reducePow, Nat.reducePow, Int.reduceAdd, Int.reduceMul, Int.reduceSub, Int.reduceNeg, Nat.reduceAdd, Nat.reduceMul, Nat.reduceSub, Nat.reduceEqDiff, Nat.reduceLT, Nat.reduceLeDiff, hlk])
                | fail)
              all_goals first | rfl | omega | (simp; done) | trace_state
    · repeat' (first
        | (with_reducible first | refine r_seq ?_ | refine r_block ?_ | refine fork_not ?_ | refine fork_and ?_ | refine fork_or ?_ | refine chk_ok (by kernel_rfl) ?_)
        | ((with_reducible first | refine fork_dec ?_ ?_ | refine fork_eq ?_ ?_ | refine fork_ne ?_ ?_ | refine fork_intro ?_ ?_) <;> intro h <;> try (exfalso; first | omega | exact h rfl | (revert h; decide) | (cases h; done)))
        | ((with_reducible show False); omega)
        | ((first | (with_reducible first | refine r_exit ?_ | refine r_skip ?_ | refine r_cond ?_ | refine r_region ?_ | show VX _ _ _ _ _ _ _ | show vstep _ _ _ _ _ | show vskip _ _ _ | show withV _ _) | ((with_reducible show endA _ _ _ _ _ _ _); simp -implicitDefEqProofs only [endA])); simp -dsimp -implicitDefEqProofs (maxSteps := 1000000) (disch := first | omega | (simp only [LN, hgx]; omega)) only [go_sem, Int.reduceToNat, Int.reducePow, Nat.reducePow, Int.reduceAdd, Int.reduceMul, Int.reduceSub, Int.reduceNeg, Nat.reduceAdd, Nat.reduceMul, Nat.reduceSub, Nat.reduceEqDiff, Nat.reduceLT, Nat.reduceLeDiff, hgx])
        | ((first | (with_reducible refine r_ret ?_) | (with_reducible refine pick_viewG default (by first | omega | (simp only [LN, hgx]; omega)) (by first | omega | (simp only [LN, hgx]; omega)) ?_) | (with_reducible refine pick_own default (by first | omega | (simp only [LN, hgx]; omega)) ?_) | (with_reducible refine And.intro (by first | decide | omega | assumption | (simp only [LN, hgx]; omega)) ?_) | ((with_reducible apply callK_pure); (first | exact c12 | exact c13 x hlen | exact c14 x (by omega) hr.ty | fail)) | ((with_reducible apply callF_lend); (first | exact c12 | exact c13 x hlen | exact c14 x (by omega) hr.ty | fail); rfl) | ((with_reducible apply callF_go); (first | exact c12 | exact c13 x hlen | exact c14 x (by omega) hr.ty | fail)) | ((with_reducible show pickE _ _ _); first | refine pickE_intro _ ⟨by omega, by rfl⟩ ?_ | refine pickE_intro _ (by rfl) ?_) | fail); try simp -dsimp -implicitDefEqProofs (maxSteps := 1000000) (disch := first | omega | (simp only [LN, hgx]; omega)) only [go_sem, Int.reduceToNat, Int.reducePow, Nat.reducePow, Int.reduceAdd, Int.reduceMul, Int.reduceSub, Int.reduceNeg, Nat.reduceAdd, Nat.reduceMul, Nat.reduceSub, Nat.reduceEqDiff, Nat.reduceLT, Nat.reduceLeDiff, hgx])
        | fail)
      all_goals first | rfl | omega | (simp [he]; done) | trace_state
end Go.Proofs.YtlkffmmgcoiniaaDoor
