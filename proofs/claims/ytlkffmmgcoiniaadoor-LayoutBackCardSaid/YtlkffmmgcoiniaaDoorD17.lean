/- Contracts of functions of this program, and the plain facts that they rest on. No conditions. -/
import Derived.Test.YtlkffmmgcoiniaaDoorD16
set_option linter.unusedSimpArgs false
set_option linter.unusedVariables false
namespace Go.Proofs.YtlkffmmgcoiniaaDoor
open Go Go.Ab
attribute [local irreducible] callK callF loopQ vstep vskip pickE hideP
set_option maxRecDepth 100000
attribute [local go_sem] eF rF eS eP eX rX eQ eL eN eW
/-- The first field with a name. -/
def fndTo (fs : List F) (nm : List UInt8) : Nat → Option Nat
  | 0 => none
  | i + 1 => match fndTo fs nm i with
    | some j => some j
    | none => if (fs.getD i default).nm = nm then some i else none
theorem fndTo_some {fs : List F} {nm : List UInt8} : ∀ {n j : Nat}, fndTo fs nm n = some j → j < n ∧ (fs.getD j default).nm = nm ∧ ∀ k, k < j → ¬ (fs.getD k default).nm = nm
  | 0, _, h => by simp [fndTo] at h
  | n + 1, j, h => by
    rw [fndTo] at h
    cases hf : fndTo fs nm n with
    | some j' =>
      rw [hf] at h
      obtain rfl : j' = j := by simpa using h
      obtain ⟨h1, h2⟩ := fndTo_some hf
      exact ⟨by omega, h2⟩
    | none =>
      rw [hf] at h
      simp only [] at h
      split at h
      · rename_i hn
        obtain rfl : n = j := by simpa using h
        exact ⟨by omega, hn, fndTo_none hf⟩
      · simp at h
where
  fndTo_none {fs : List F} {nm : List UInt8} : ∀ {n : Nat}, fndTo fs nm n = none → ∀ k, k < n → ¬ (fs.getD k default).nm = nm
    | 0, _, k, hk => absurd hk (by omega)
    | n + 1, h, k, hk => by
      rw [fndTo] at h
      cases hf : fndTo fs nm n with
      | some j' => rw [hf] at h; simp at h
      | none =>
        rw [hf] at h
        simp only [] at h
        split at h
        · simp at h
        · rename_i hn
          rcases Nat.lt_or_ge k n with h1 | h1
          · exact fndTo_none hf k h1
          · obtain rfl : k = n := by omega
            exact hn
theorem fndTo_none {fs : List F} {nm : List UInt8} {n : Nat} (h : fndTo fs nm n = none) : ∀ k, k < n → ¬ (fs.getD k default).nm = nm := fndTo_some.fndTo_none h
def fnd (x : X) (nm : List UInt8) : Option Nat := fndTo x.fs nm x.fs.length
/-- Where an element lies. -/
def posE (x : X) (j k : Nat) : Nat × Nat := elemP (wN (x.fs.getD j default).ty) (posTo x.fs j) k
def wdE (x : X) (j : Nat) : Nat := wN (x.fs.getD j default).ty
def wordsM (x : X) : Nat := (posTo x.fs x.fs.length).1 + 1
theorem elem_mono {w : Nat} (hw : WOk w) {p : Nat × Nat} (hp : p.2 ≤ 64) (k : Nat) : (elemP w p k).1 ≤ (elemP w p (k + 1)).1 := by
  have h1 := norm_run hw hp (k + 1)
  have h2 := run_step hw hp k
  have h3 := run_ok hw hp (k + 1)
  have h4 := norm_fit hw h3.1
  rw [h1, h2] at h4
  exact h4.2.1
theorem elem_le {w : Nat} (hw : WOk w) {p : Nat × Nat} (hp : p.2 ≤ 64) (k : Nat) : ∀ d, (elemP w p k).1 ≤ (elemP w p (k + d)).1
  | 0 => Nat.le_refl _
  | d + 1 => Nat.le_trans (elem_le hw hp k d) (elem_mono hw hp (k + d))
theorem posTo_le {fs : List F} (h : CntOk fs) {i : Nat} : ∀ {n : Nat}, i ≤ n → n ≤ fs.length → (posTo fs i).1 ≤ (posTo fs n).1
  | 0, h1, _ => by obtain rfl : i = 0 := by omega
                   exact Nat.le_refl _
  | n + 1, h1, h2 => by
    rcases Nat.lt_or_ge i (n + 1) with h3 | h3
    · exact Nat.le_trans (posTo_le h (by omega) (by omega)) (posTo_mono h (by omega))
    · obtain rfl : i = n + 1 := by omega
      exact Nat.le_refl _
theorem posE_in {x : X} (hc : CntOk x.fs) {j k : Nat} (hj : j < x.fs.length) (hk : (k : Int) < (x.fs.getD j default).cnt) : (posE x j k).1 < wordsM x := by
  have hcj := hc j hj
  have hp := posTo_ok hc j (by omega)
  have h1 := elem_le (wok (x.fs.getD j default).ty) hp.1 k ((x.fs.getD j default).cnt.toNat - 1 - k)
  rw [show k + ((x.fs.getD j default).cnt.toNat - 1 - k) = (x.fs.getD j default).cnt.toNat - 1 by omega] at h1
  have h2 := run_step (wok (x.fs.getD j default).ty) hp.1 ((x.fs.getD j default).cnt.toNat - 1)
  have h3 : (posTo x.fs (j + 1)).1 = (elemP (wN (x.fs.getD j default).ty) (posTo x.fs j) ((x.fs.getD j default).cnt.toNat - 1)).1 := by
    rw [posTo, next_run hcj.1, show (x.fs.getD j default).cnt.toNat = (x.fs.getD j default).cnt.toNat - 1 + 1 by omega, h2]
    simp
  have h4 := posTo_le hc (i := j + 1) (n := x.fs.length) (by omega) (Nat.le_refl _)
  unfold posE wordsM
  omega
theorem posE_fit {x : X} (hc : CntOk x.fs) {j : Nat} (hj : j < x.fs.length) (k : Nat) : (posE x j k).2 + wdE x j ≤ 64 := elem_fit (wok _) (posTo_ok hc j (by omega)).1 k
/-- What Get returns. -/
def getR (x : X) (ws : List Nat) (nm : List UInt8) (i : Int) : Nat × Int :=
  if ws.length ≠ wordsM x then (0, 1) else match fnd x nm with
    | none => (0, 5)
    | some j => if i < 0 ∨ (x.fs.getD j default).cnt ≤ i then (0, 2) else (getB (ws.getD (posE x j i.toNat).1 default) (posE x j i.toNat).2 (wdE x j), 0)
/-- What Set returns. -/
def setR (x : X) (ws : List Nat) (nm : List UInt8) (i : Int) (v : Nat) : List Nat × Int :=
  if ws.length ≠ wordsM x then ([], 1) else match fnd x nm with
    | none => ([], 5)
    | some j => if i < 0 ∨ (x.fs.getD j default).cnt ≤ i then ([], 2) else if 2 ^ wdE x j ≤ v then ([], 2)
      else (ws.set (posE x j i.toNat).1 (setB (ws.getD (posE x j i.toNat).1 default) (posE x j i.toNat).2 (wdE x j) v), 0)
/-- What find returns. -/
def findR (x : X) (ws : List Nat) (nm : List UInt8) (i : Int) : S × Int :=
  if ws.length ≠ wordsM x then (default, 1) else match fnd x nm with
    | none => (default, 5)
    | some j => if i < 0 ∨ (x.fs.getD j default).cnt ≤ i then (default, 2) else (slotAt x.fs j, 0)
def laG (x : X) : La := ⟨x.nm, x.ver, slotsTo x.fs x.fs.length, (posTo x.fs x.fs.length).1 + 1⟩
theorem find_1 {x : X} {ws : List Nat} {nm : List UInt8} {i : Int} (h : ¬ ws.length = wordsM x) : findR x ws nm i = (default, 1) ∧ getR x ws nm i = (0, 1) ∧ ∀ v, setR x ws nm i v = ([], 1) :=
  ⟨if_pos h, if_pos h, fun v => if_pos h⟩
theorem find_5 {x : X} {ws : List Nat} {nm : List UInt8} {i : Int} (h : ws.length = wordsM x) (hf : fnd x nm = none) : findR x ws nm i = (default, 5) ∧ getR x ws nm i = (0, 5) ∧ ∀ v, setR x ws nm i v = ([], 5) := by
  refine ⟨?_, ?_, fun v => ?_⟩
  · unfold findR; rw [if_neg (by simpa using h), hf]
  · unfold getR; rw [if_neg (by simpa using h), hf]
  · unfold setR; rw [if_neg (by simpa using h), hf]
theorem find_2 {x : X} {ws : List Nat} {nm : List UInt8} {i : Int} {j : Nat} (h : ws.length = wordsM x) (hf : fnd x nm = some j) (hi : i < 0 ∨ (x.fs.getD j default).cnt ≤ i) : findR x ws nm i = (default, 2) ∧ getR x ws nm i = (0, 2) ∧ ∀ v, setR x ws nm i v = ([], 2) := by
  refine ⟨?_, ?_, fun v => ?_⟩
  · unfold findR; rw [if_neg (by simpa using h), hf]; exact if_pos hi
  · unfold getR; rw [if_neg (by simpa using h), hf]; exact if_pos hi
  · unfold setR; rw [if_neg (by simpa using h), hf]; exact if_pos hi
theorem find_0 {x : X} {ws : List Nat} {nm : List UInt8} {i : Int} {j : Nat} (h : ws.length = wordsM x) (hf : fnd x nm = some j) (hi : ¬ (i < 0 ∨ (x.fs.getD j default).cnt ≤ i)) :
    findR x ws nm i = (slotAt x.fs j, 0) ∧ getR x ws nm i = (getB (ws.getD (posE x j i.toNat).1 default) (posE x j i.toNat).2 (wdE x j), 0) ∧
    ∀ v, setR x ws nm i v = if 2 ^ wdE x j ≤ v then ([], 2) else (ws.set (posE x j i.toNat).1 (setB (ws.getD (posE x j i.toNat).1 default) (posE x j i.toNat).2 (wdE x j) v), 0) := by
  refine ⟨?_, ?_, fun v => ?_⟩
  · unfold findR; rw [if_neg (by simpa using h), hf]; exact if_neg hi
  · unfold getR; rw [if_neg (by simpa using h), hf]; exact if_neg hi
  · unfold setR; rw [if_neg (by simpa using h), hf]; exact if_neg hi
attribute [local go_sem] laG
theorem c19g {x : X} (G : Good x) (hl : x.fs.length ≤ 40) (nm : List UInt8) : PCalls Tryd.prog 19 [eL (laG x), .v (.string (bs nm))] (match fnd x nm with | some j => .tup [eS (slotAt x.fs j), .v (.int .i64 0)] | none => .tup [eS default, .v (.int .i64 5)]) := by
  cases hf : fnd x nm with
  | some j =>
    obtain ⟨h1, h2, h3⟩ := fndTo_some hf
    have := findG G h1 hl
    rw [h2] at this
    exact this
  | none => exact findN G hl nm (fndTo_none hf)
set_option maxRecDepth 100000 in
set_option maxHeartbeats 4000000 in
theorem c47 (x : X) (G : Good x) (hl : x.fs.length ≤ 40) (ws : List Nat) (nm : List UInt8) (i : Int) : PCalls Tryd.prog 47 [eL (laG x), .view 1 (ws.map eW), .v (.string (bs nm)), .v (.int .i64 i)] (.tup [eS (findR x ws nm i).1, .v (.int .i64 (findR x ws nm i).2)]) := by
  refine pcalls_facts ⟨_, rfl, rfl, by decide⟩ fun hf => ?_
  simp only [go_sem, big] at hf
  refine pcalls_of (E := E) (fn := Tryd.f47) 39 [.cell 8 47, .tmp 9] rfl rfl rfl rfl (by decide) rfl ?_
  have cf := c19g G hl nm
  by_cases hlen : ws.length = wordsM x
  · have hlen2 : (ws.length : Int) = ((posTo x.fs x.fs.length).1 : Int) + 1 := by rw [hlen]; unfold wordsM; omega
    cases hf : fnd x nm with
    | none =>
      have e := (find_5 (i := i) hlen hf).1
      rw [hf] at cf
      repeat' (first
        | (with_reducible first | refine r_seq ?_ | refine r_block ?_ | refine fork_not ?_ | refine fork_and ?_ | refine fork_or ?_ | refine chk_ok (by kernel_rfl) ?_)
        | ((with_reducible first | refine fork_dec ?_ ?_ | refine fork_eq ?_ ?_ | refine fork_ne ?_ ?_ | refine fork_intro ?_ ?_) <;> intro h <;> try (exfalso; first | omega | exact h rfl | (revert h; decide) | (cases h; done)))
        | ((with_reducible show False); omega)
        | ((first | (with_reducible first | refine r_exit ?_ | refine r_skip ?_ | refine r_cond ?_ | refine r_region ?_ | show VX _ _ _ _ _ _ _ | show vstep _ _ _ _ _ | show vskip _ _ _ | show withV _ _) | ((with_reducible show endA _ _ _ _ _ _ _); simp -implicitDefEqProofs only [endA])); simp -dsimp -implicitDefEqProofs (maxSteps := 1000000) (disch := first | omega | (simp only [LN, e, hlen2]; omega)) only [go_sem, Int.reduceToNat, Int.reducePow, Nat.reducePow, Int.reduceAdd, Int.reduceMul, Int.reduceSub, Int.reduceNeg, Nat.reduceAdd, Nat.reduceMul, Nat.reduceSub, Nat.reduceEqDiff, Nat.reduceLT, Nat.reduceLeDiff, e, hlen2])
        | ((first | (with_reducible refine r_ret ?_) | (with_reducible refine pick_viewG default (by first | omega | (simp only [LN, e, hlen2]; omega)) (by first | omega | (simp only [LN, e, hlen2]; omega)) ?_) | (with_reducible refine pick_own default (by first | omega | (simp only [LN, e, hlen2]; omega)) ?_) | (with_reducible refine And.intro (by first | decide | omega | assumption | (simp only [LN, e, hlen2]; omega)) ?_) | ((with_reducible apply callK_pure); (exact cf)) | ((with_reducible apply callF_lend); (exact cf); rfl) | ((with_reducible apply callF_go); (exact cf)) | ((with_reducible show pickE _ _ _); first | refine pickE_intro _ ⟨by omega, by rfl⟩ ?_ | refine pickE_intro _ (by rfl) ?_) | fail); try simp -dsimp -implicitDefEqProofs (maxSteps := 1000000) (disch := first | omega | (simp only [LN, e, hlen2]; omega)) only [go_sem, Int.reduceToNat, Int.reducePow, Nat.reducePow, Int.reduceAdd, Int.reduceMul, Int.reduceSub, Int.reduceNeg, Nat.reduceAdd, Nat.reduceMul, Nat.reduceSub, Nat.reduceEqDiff, Nat.reduceLT, Nat.reduceLeDiff, e, hlen2])
        | fail)
      all_goals first | rfl | omega | (exact ⟨rfl, rfl, rfl, rfl, rfl, rfl⟩) | trace_state
    | some j =>
      rw [hf] at cf
      have hsf := slotAt_f x.fs j
      by_cases hi : i < 0 ∨ (x.fs.getD j default).cnt ≤ i
      · have e := (find_2 hlen hf hi).1
        repeat' (first
          | (with_reducible first | refine r_seq ?_ | refine r_block ?_ | refine fork_not ?_ | refine fork_and ?_ | refine fork_or ?_ | refine chk_ok (by kernel_rfl) ?_)
          | ((with_reducible first | refine fork_dec ?_ ?_ | refine fork_eq ?_ ?_ | refine fork_ne ?_ ?_ | refine fork_intro ?_ ?_) <;> intro h <;> try (exfalso; first | omega | exact h rfl | (revert h; decide) | (cases h; done)))
          | ((with_reducible show False); omega)
          | ((first | (with_reducible first | refine r_exit ?_ | refine r_skip ?_ | refine r_cond ?_ | refine r_region ?_ | show VX _ _ _ _ _ _ _ | show vstep _ _ _ _ _ | show vskip _ _ _ | show withV _ _) | ((with_reducible show endA _ _ _ _ _ _ _); simp -implicitDefEqProofs only [endA])); simp -dsimp -implicitDefEqProofs (maxSteps := 1000000) (disch := first | omega | (simp only [LN, e, hlen2, hsf]; omega)) only [go_sem, Int.reduceToNat, Int.reducePow, Nat.reducePow, Int.reduceAdd, Int.reduceMul, Int.reduceSub, Int.reduceNeg, Nat.reduceAdd, Nat.reduceMul, Nat.reduceSub, Nat.reduceEqDiff, Nat.reduceLT, Nat.reduceLeDiff, e, hlen2, hsf])
          | ((first | (with_reducible refine r_ret ?_) | (with_reducible refine pick_viewG default (by first | omega | (simp only [LN, e, hlen2, hsf]; omega)) (by first | omega | (simp only [LN, e, hlen2, hsf]; omega)) ?_) | (with_reducible refine pick_own default (by first | omega | (simp only [LN, e, hlen2, hsf]; omega)) ?_) | (with_reducible refine And.intro (by first | decide | omega | assumption | (simp only [LN, e, hlen2, hsf]; omega)) ?_) | ((with_reducible apply callK_pure); (exact cf)) | ((with_reducible apply callF_lend); (exact cf); rfl) | ((with_reducible apply callF_go); (exact cf)) | ((with_reducible show pickE _ _ _); first | refine pickE_intro _ ⟨by omega, by rfl⟩ ?_ | refine pickE_intro _ (by rfl) ?_) | fail); try simp -dsimp -implicitDefEqProofs (maxSteps := 1000000) (disch := first | omega | (simp only [LN, e, hlen2, hsf]; omega)) only [go_sem, Int.reduceToNat, Int.reducePow, Nat.reducePow, Int.reduceAdd, Int.reduceMul, Int.reduceSub, Int.reduceNeg, Nat.reduceAdd, Nat.reduceMul, Nat.reduceSub, Nat.reduceEqDiff, Nat.reduceLT, Nat.reduceLeDiff, e, hlen2, hsf])
          | fail)
        all_goals first | rfl | omega | (exact ⟨rfl, rfl, rfl, rfl, rfl, rfl⟩) | trace_state
      · have e := (find_0 hlen hf hi).1
        repeat' (first
          | (with_reducible first | refine r_seq ?_ | refine r_block ?_ | refine fork_not ?_ | refine fork_and ?_ | refine fork_or ?_ | refine chk_ok (by kernel_rfl) ?_)
          | ((with_reducible first | refine fork_dec ?_ ?_ | refine fork_eq ?_ ?_ | refine fork_ne ?_ ?_ | refine fork_intro ?_ ?_) <;> intro h <;> try (exfalso; first | omega | exact h rfl | (revert h; decide) | (cases h; done)))
          | ((with_reducible show False); omega)
          | ((first | (with_reducible first | refine r_exit ?_ | refine r_skip ?_ | refine r_cond ?_ | refine r_region ?_ | show VX _ _ _ _ _ _ _ | show vstep _ _ _ _ _ | show vskip _ _ _ | show withV _ _) | ((with_reducible show endA _ _ _ _ _ _ _); simp -implicitDefEqProofs only [endA])); simp -dsimp -implicitDefEqProofs (maxSteps := 1000000) (disch := first | omega | (simp only [LN, e, hlen2, hsf]; omega)) only [go_sem, Int.reduceToNat, Int.reducePow, Nat.reducePow, Int.reduceAdd, Int.reduceMul, Int.reduceSub, Int.reduceNeg, Nat.reduceAdd, Nat.reduceMul, Nat.reduceSub, Nat.reduceEqDiff, Nat.reduceLT, Nat.reduceLeDiff, e, hlen2, hsf])
          | ((first | (with_reducible refine r_ret ?_) | (with_reducible refine pick_viewG default (by first | omega | (simp only [LN, e, hlen2, hsf]; omega)) (by first | omega | (simp only [LN, e, hlen2, hsf]; omega)) ?_) | (with_reducible refine pick_own default (by first | omega | (simp only [LN, e, hlen2, hsf]; omega)) ?_) | (with_reducible refine And.intro (by first | decide | omega | assumption | (simp only [LN, e, hlen2, hsf]; omega)) ?_) | ((with_reducible apply callK_pure); (exact cf)) | ((with_reducible apply callF_lend); (exact cf); rfl) | ((with_reducible apply callF_go); (exact cf)) | ((with_reducible show pickE _ _ _); first | refine pickE_intro _ ⟨by omega, by rfl⟩ ?_ | refine pickE_intro _ (by rfl) ?_) | fail); try simp -dsimp -implicitDefEqProofs (maxSteps := 1000000) (disch := first | omega | (simp only [LN, e, hlen2, hsf]; omega)) only [go_sem, Int.reduceToNat, Int.reducePow, Nat.reducePow, Int.reduceAdd, Int.reduceMul, Int.reduceSub, Int.reduceNeg, Nat.reduceAdd, Nat.reduceMul, Nat.reduceSub, Nat.reduceEqDiff, Nat.reduceLT, Nat.reduceLeDiff, e, hlen2, hsf])
          | fail)
        all_goals first | rfl | omega | (exact ⟨rfl, rfl, rfl, rfl, rfl, rfl⟩) | trace_state
  · have hlen2 : ¬ (ws.length : Int) = ((posTo x.fs x.fs.length).1 : Int) + 1 := by unfold wordsM at hlen; omega
    have e := (find_1 (nm := nm) (i := i) hlen).1
    repeat' (first
      | (with_reducible first | refine r_seq ?_ | refine r_block ?_ | refine fork_not ?_ | refine fork_and ?_ | refine fork_or ?_ | refine chk_ok (by kernel_rfl) ?_)
      | ((with_reducible first | refine fork_dec ?_ ?_ | refine fork_eq ?_ ?_ | refine fork_ne ?_ ?_ | refine fork_intro ?_ ?_) <;> intro h <;> try (exfalso; first | omega | exact h rfl | (revert h; decide) | (cases h; done)))
      | ((with_reducible show False); omega)
      | ((first | (with_reducible first | refine r_exit ?_ | refine r_skip ?_ | refine r_cond ?_ | refine r_region ?_ | show VX _ _ _ _ _ _ _ | show vstep _ _ _ _ _ | show vskip _ _ _ | show withV _ _) | ((with_reducible show endA _ _ _ _ _ _ _); simp -implicitDefEqProofs only [endA])); simp -dsimp -implicitDefEqProofs (maxSteps := 1000000) (disch := first | omega | (simp only [LN, e]; omega)) only [go_sem, Int.reduceToNat, Int.reducePow, Nat.reducePow, Int.reduceAdd, Int.reduceMul, Int.reduceSub, Int.reduceNeg, Nat.reduceAdd, Nat.reduceMul, Nat.reduceSub, Nat.reduceEqDiff, Nat.reduceLT, Nat.reduceLeDiff, e])
      | ((first | (with_reducible refine r_ret ?_) | (with_reducible refine pick_viewG default (by first | omega | (simp only [LN, e]; omega)) (by first | omega | (simp only [LN, e]; omega)) ?_) | (with_reducible refine pick_own default (by first | omega | (simp only [LN, e]; omega)) ?_) | (with_reducible refine And.intro (by first | decide | omega | assumption | (simp only [LN, e]; omega)) ?_) | ((with_reducible show pickE _ _ _); first | refine pickE_intro _ ⟨by omega, by rfl⟩ ?_ | refine pickE_intro _ (by rfl) ?_) | fail); try simp -dsimp -implicitDefEqProofs (maxSteps := 1000000) (disch := first | omega | (simp only [LN, e]; omega)) only [go_sem, Int.reduceToNat, Int.reducePow, Nat.reducePow, Int.reduceAdd, Int.reduceMul, Int.reduceSub, Int.reduceNeg, Nat.reduceAdd, Nat.reduceMul, Nat.reduceSub, Nat.reduceEqDiff, Nat.reduceLT, Nat.reduceLeDiff, e])
      | fail)
    all_goals first | rfl | omega | (exact ⟨rfl, rfl, rfl, rfl, rfl, rfl⟩) | trace_state
end Go.Proofs.YtlkffmmgcoiniaaDoor
