/- Contracts of functions of this program, and the plain facts that they rest on. No conditions. -/
import Derived.Test.YtlkffmmgcoiniaaDoorD21
set_option linter.unusedSimpArgs false
set_option linter.unusedVariables false
namespace Go.Proofs.YtlkffmmgcoiniaaDoor
open Go Go.Ab
attribute [local irreducible] callK callF loopQ vstep vskip pickE hideP
set_option maxRecDepth 100000
attribute [local go_sem] eF rF eS eP eX rX eQ eL eN eW
/-- A place as one number. -/
def lin (p : Nat × Nat) : Nat := 64 * p.1 + p.2
theorem lin_norm {w : Nat} {p : Nat × Nat} (hp : p.2 ≤ 64) : lin p ≤ lin (normP w p) := by
  unfold normP lin; split
  · show _ ≤ 64 * (p.1 + 1) + 0; omega
  · exact Nat.le_refl _
theorem lin_elem {w : Nat} (hw : WOk w) {p : Nat × Nat} (hp : p.2 ≤ 64) (k : Nat) : lin (elemP w p k) + w = lin (runP w p (k + 1)) := by
  rw [run_step hw hp]; unfold lin; simp only []; omega
theorem lin_run_elem {w : Nat} (hw : WOk w) {p : Nat × Nat} (hp : p.2 ≤ 64) (k : Nat) : lin (runP w p k) ≤ lin (elemP w p k) := by
  rw [← norm_run hw hp]; exact lin_norm (run_ok hw hp k).1
theorem lin_run_mono {w : Nat} (hw : WOk w) {p : Nat × Nat} (hp : p.2 ≤ 64) (k : Nat) : ∀ d, lin (runP w p k) ≤ lin (runP w p (k + d))
  | 0 => Nat.le_refl _
  | d + 1 => by
    have h1 := lin_run_mono hw hp k d
    have h2 := lin_run_elem hw hp (k + d)
    have h3 := lin_elem hw hp (k + d)
    rw [← Nat.add_assoc]; omega
theorem lin_elem_lt {w : Nat} (hw : WOk w) {p : Nat × Nat} (hp : p.2 ≤ 64) {i j : Nat} (h : i < j) : lin (elemP w p i) + w ≤ lin (elemP w p j) := by
  have h1 := lin_elem hw hp i
  have h2 := lin_run_mono hw hp (i + 1) (j - (i + 1))
  rw [show i + 1 + (j - (i + 1)) = j by omega] at h2
  have h3 := lin_run_elem hw hp j
  omega
theorem lin_pos_mono {fs : List F} (hc : CntOk fs) {i : Nat} : ∀ {n : Nat}, i ≤ n → n ≤ fs.length → lin (posTo fs i) ≤ lin (posTo fs n)
  | 0, h1, _ => by obtain rfl : i = 0 := by omega
                   exact Nat.le_refl _
  | n + 1, h1, h2 => by
    rcases Nat.lt_or_ge i (n + 1) with h3 | h3
    · have ih := lin_pos_mono hc (i := i) (n := n) (by omega) (by omega)
      have hp := (posTo_ok hc n (by omega)).1
      have := lin_run_mono (wok (fs.getD n default).ty) hp 0 (fs.getD n default).cnt.toNat
      rw [runP_zero, Nat.zero_add] at this
      rw [posTo, next_run (hc n (by omega)).1]
      omega
    · obtain rfl : i = n + 1 := by omega
      exact Nat.le_refl _
theorem posE_lt {x : X} (hc : CntOk x.fs) {p q i j : Nat} (hpq : p < q) (hq : q < x.fs.length) (hi : (i : Int) < (x.fs.getD p default).cnt) : lin (posE x p i) + wdE x p ≤ lin (posE x q j) := by
  have hp1 := (posTo_ok hc p (by omega)).1
  have hq1 := (posTo_ok hc q (by omega)).1
  have h1 := lin_elem (wok (x.fs.getD p default).ty) hp1 i
  have h2 := lin_run_mono (wok (x.fs.getD p default).ty) hp1 (i + 1) ((x.fs.getD p default).cnt.toNat - (i + 1))
  rw [show i + 1 + ((x.fs.getD p default).cnt.toNat - (i + 1)) = (x.fs.getD p default).cnt.toNat by omega, ← next_run (hc p (by omega)).1] at h2
  have h3 := lin_pos_mono hc (i := p + 1) (n := q) (by omega) (by omega)
  have h4 := lin_run_mono (wok (x.fs.getD q default).ty) hq1 0 j
  rw [runP_zero, Nat.zero_add] at h4
  have h5 := lin_run_elem (wok (x.fs.getD q default).ty) hq1 j
  have h6 : posTo x.fs (p + 1) = nextM (posTo x.fs p) (x.fs.getD p default) := rfl
  rw [h6] at h3
  show lin (elemP _ _ _) + wN _ ≤ lin (elemP _ _ _)
  omega
theorem posE_apart {x : X} (hc : CntOk x.fs) {p q i j : Nat} (hp : p < x.fs.length) (hq : q < x.fs.length) (hi : (i : Int) < (x.fs.getD p default).cnt) (hj : (j : Int) < (x.fs.getD q default).cnt)
    (hne : ¬ (p = q ∧ i = j)) (hw : (posE x p i).1 = (posE x q j).1) : (posE x p i).2 + wdE x p ≤ (posE x q j).2 ∨ (posE x q j).2 + wdE x q ≤ (posE x p i).2 := by
  have key : lin (posE x p i) + wdE x p ≤ lin (posE x q j) ∨ lin (posE x q j) + wdE x q ≤ lin (posE x p i) := by
    rcases Nat.lt_trichotomy p q with h | h | h
    · exact .inl (posE_lt hc h hq hi)
    · subst h
      have hp1 := (posTo_ok hc p (by omega)).1
      rcases Nat.lt_trichotomy i j with h2 | h2 | h2
      · exact .inl (lin_elem_lt (wok _) hp1 h2)
      · exact absurd ⟨rfl, h2⟩ hne
      · exact .inr (lin_elem_lt (wok _) hp1 h2)
    · exact .inr (posE_lt hc h hp hj)
  unfold lin at key
  omega
/-- The words with an element set. -/
def putE (x : X) (ws : List Nat) (j k v : Nat) : List Nat := ws.set (posE x j k).1 (setB (ws.getD (posE x j k).1 default) (posE x j k).2 (wdE x j) v)
def getE (x : X) (ws : List Nat) (j k : Nat) : Nat := getB (ws.getD (posE x j k).1 default) (posE x j k).2 (wdE x j)
theorem putE_len (x : X) (ws : List Nat) (j k v : Nat) : (putE x ws j k v).length = ws.length := by simp [putE]
theorem putE_u {x : X} {ws : List Nat} (hu : U64 ws) (j k v : Nat) : U64 (putE x ws j k v) := by
  intro i
  unfold putE
  rw [List.getD_eq_getElem?_getD, List.getElem?_set]
  split
  · split
    · exact setB_lt _ _ _ _
    · exact (show (0 : Nat) < _ by decide)
  · rw [← List.getD_eq_getElem?_getD]; exact hu i
theorem getE_lt (x : X) (ws : List Nat) (j k : Nat) : getE x ws j k < 2 ^ wdE x j := getB_lt _ _ _
theorem wdE_le (x : X) (j : Nat) : 1 ≤ wdE x j ∧ wdE x j ≤ 64 := wok_1 (wok _)
theorem get_put_same {x : X} (hc : CntOk x.fs) {ws : List Nat} (hlen : ws.length = wordsM x) {j k v : Nat} (hj : j < x.fs.length) (hk : (k : Int) < (x.fs.getD j default).cnt) (hv : v < 2 ^ wdE x j) : getE x (putE x ws j k v) j k = v := by
  have hin := posE_in hc hj hk
  unfold getE putE
  rw [List.getD_eq_getElem?_getD, List.getElem?_set, if_pos rfl, if_pos (by omega)]
  exact get_set_same (posE_fit hc hj k) hv
theorem get_put_other {x : X} (hc : CntOk x.fs) {ws : List Nat} (hlen : ws.length = wordsM x) {p i q j v : Nat} (hp : p < x.fs.length) (hi : (i : Int) < (x.fs.getD p default).cnt) (hq : q < x.fs.length) (hj : (j : Int) < (x.fs.getD q default).cnt) (hne : ¬ (p = q ∧ i = j)) :
    getE x (putE x ws p i v) q j = getE x ws q j := by
  have hin := posE_in hc hp hi
  unfold getE putE
  rw [List.getD_eq_getElem?_getD, List.getElem?_set]
  by_cases hw : (posE x p i).1 = (posE x q j).1
  · rw [if_pos hw, if_pos (by omega), ← hw]
    exact get_set_other (posE_fit hc hp i) (posE_fit hc hq j) (posE_apart hc hp hq hi hj hne hw)
  · rw [if_neg hw, ← List.getD_eq_getElem?_getD]
theorem fnd_at {x : X} (G : Good x) {j : Nat} (hj : j < x.fs.length) : fnd x (x.fs.getD j default).nm = some j := fnd_first hj rfl fun _ hk => names_ne G.err hj hk
theorem getR_at {x : X} (G : Good x) {ws : List Nat} (hlen : ws.length = wordsM x) {j k : Nat} (hj : j < x.fs.length) (hk : (k : Int) < (x.fs.getD j default).cnt) : getR x ws (x.fs.getD j default).nm k = (getE x ws j k, 0) := by
  have := (find_0 (i := (k : Int)) hlen (fnd_at G hj) (by omega)).2.1
  rw [Int.toNat_natCast] at this; exact this
theorem setR_at {x : X} (G : Good x) {ws : List Nat} (hlen : ws.length = wordsM x) {j k v : Nat} (hj : j < x.fs.length) (hk : (k : Int) < (x.fs.getD j default).cnt) (hv : v < 2 ^ wdE x j) : setR x ws (x.fs.getD j default).nm k v = (putE x ws j k v, 0) := by
  have := (find_0 (i := (k : Int)) hlen (fnd_at G hj) (by omega)).2.2 v
  rw [Int.toNat_natCast, if_neg (by omega)] at this; exact this
theorem c20w {x : X} (G : Good x) : PCalls Tryd.prog 20 [eL (laG x)] (.v (.int .i64 (wordsM x))) := by rw [← words_e]; exact c20 (laG x)
attribute [local irreducible] slotAt posE wdE wordsM getB setB mskN plAt getR setR putE getE
def w5 : Nat := 6510615555426900570
theorem w5_u (n : Nat) : U64 (List.replicate n w5) := by
  intro i
  rw [List.getD_eq_getElem?_getD, List.getElem?_replicate]; split <;> (show (_ : Nat) < _; decide)
def wsF (n k : Nat) : List Nat := List.replicate k w5 ++ List.replicate (n - k) 0
theorem wsF_0 (n : Nat) : (wsF n 0).map eW = List.replicate n (.v (.int .u64 0)) := by unfold wsF; rw [List.replicate_zero, List.nil_append, Nat.sub_zero, map_rep]
theorem wsF_len {n k : Nat} (h : k ≤ n) : (wsF n k).length = n := by simp [wsF]; omega
theorem wsF_n (n : Nat) : wsF n n = List.replicate n w5 := by simp [wsF]
theorem wsF_set {n k : Nat} (h : k < n) : ((wsF n k).map eW).set k (.v (.int .u64 6510615555426900570)) = (wsF n (k + 1)).map eW := by
  have e : (wsF n k).set k w5 = wsF n (k + 1) := by
    unfold wsF
    obtain ⟨m, hm⟩ : ∃ m, n - k = m + 1 := ⟨n - k - 1, by omega⟩
    rw [List.set_append_right _ _ (by simp), hm, List.replicate_succ, List.length_replicate, Nat.sub_self, List.set_cons_zero, show n - (k + 1) = m by omega, List.replicate_succ', List.append_assoc]
    rfl
  rw [← e, List.map_set]; rfl
attribute [local irreducible] wsF
end Go.Proofs.YtlkffmmgcoiniaaDoor
