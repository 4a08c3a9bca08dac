/- Contracts of functions of this program, and the plain facts that they rest on. No conditions. -/
import Derived.Test.YtlkffmmgcoiniaaDoorD2
set_option linter.unusedSimpArgs false
set_option linter.unusedVariables false
namespace Go.Proofs.YtlkffmmgcoiniaaDoor
open Go Go.Ab
attribute [local irreducible] callK callF loopQ vstep vskip pickE hideP
/-! The places of elements: plain numbers. -/
def runP (w : Nat) (p : Nat × Nat) (k : Nat) : Nat × Nat := if k = 0 then p else endP w (normP w p).1 (normP w p).2 k
def elemP (w : Nat) (p : Nat × Nat) (k : Nat) : Nat × Nat := posK w (normP w p).1 (normP w p).2 k
def WOk (w : Nat) : Prop := w = 64 ∨ w = 32 ∨ w = 16 ∨ w = 8 ∨ w = 1
theorem norm_fit {w : Nat} (hw : WOk w) {p : Nat × Nat} (hp : p.2 ≤ 64) : (normP w p).2 + w ≤ 64 ∧ p.1 ≤ (normP w p).1 ∧ (normP w p).1 ≤ p.1 + 1 := by
  unfold normP
  split
  · simp only []
    refine ⟨?_, by omega, by omega⟩
    rcases hw with rfl | rfl | rfl | rfl | rfl <;> omega
  · exact ⟨by omega, Nat.le_refl _, by omega⟩
theorem posK_t {w W s k : Nat} (h : k < (64 - s) / w) : posK w W s k = (W, s + k * w) := if_pos h
theorem posK_f {w W s k : Nat} (h : ¬ k < (64 - s) / w) : posK w W s k = (W + 1 + (k - (64 - s) / w) / (64 / w), (k - (64 - s) / w) % (64 / w) * w) := if_neg h
theorem normP_end {w W s k : Nat} (hw : WOk w) (hs : s + w ≤ 64) (hk : 1 ≤ k) : normP w (endP w W s k) = posK w W s k := by
  by_cases h1 : (64 - s) / w < k
  · rw [endP_t h1, posK_f (by omega)]
    by_cases h2 : 64 < (k - (64 - s) / w - (k - (64 - s) / w - 1) / (64 / w) * (64 / w)) * w + w
    · rw [normP_t h2, Prod.mk.injEq]
      rcases hw with rfl | rfl | rfl | rfl | rfl <;> simp only [Nat.reduceDiv, Nat.div_one] at * <;> constructor <;> omega
    · rw [normP_f h2, Prod.mk.injEq]
      rcases hw with rfl | rfl | rfl | rfl | rfl <;> simp only [Nat.reduceDiv, Nat.div_one] at * <;> constructor <;> omega
  · rw [endP_f h1]
    by_cases h2 : k < (64 - s) / w
    · rw [posK_t h2, normP_f (by rcases hw with rfl | rfl | rfl | rfl | rfl <;> omega)]
    · rw [posK_f h2, normP_t (by rcases hw with rfl | rfl | rfl | rfl | rfl <;> omega), Prod.mk.injEq]
      rcases hw with rfl | rfl | rfl | rfl | rfl <;> simp only [Nat.reduceDiv, Nat.div_one] at * <;> constructor <;> omega
theorem norm_run {w : Nat} (hw : WOk w) {p : Nat × Nat} (hp : p.2 ≤ 64) (k : Nat) : normP w (runP w p k) = elemP w p k := by
  obtain ⟨h1, h2⟩ := norm_fit hw hp
  unfold runP elemP
  split
  · rename_i h; subst h
    rcases hw with rfl | rfl | rfl | rfl | rfl <;> (rw [posK_t (by omega)]; simp)
  · exact normP_end hw h1 (by omega)
theorem run_step {w : Nat} (hw : WOk w) {p : Nat × Nat} (hp : p.2 ≤ 64) (k : Nat) : runP w p (k + 1) = ((elemP w p k).1, (elemP w p k).2 + w) := by
  obtain ⟨h1, h2⟩ := norm_fit hw hp
  unfold runP elemP
  rw [if_neg (by omega)]
  generalize (normP w p).1 = W at *
  generalize (normP w p).2 = s at *
  by_cases h3 : k < (64 - s) / w
  · rw [posK_t h3, endP_f (by omega), Prod.mk.injEq]
    rcases hw with rfl | rfl | rfl | rfl | rfl <;> constructor <;> omega
  · rw [posK_f h3, endP_t (by omega), Prod.mk.injEq]
    rcases hw with rfl | rfl | rfl | rfl | rfl <;> simp only [Nat.reduceDiv, Nat.div_one] at * <;> constructor <;> omega
theorem wok (t : Int) : WOk (wN t) := wN_cases t
theorem elem_fit {w : Nat} (hw : WOk w) {p : Nat × Nat} (hp : p.2 ≤ 64) (k : Nat) : (elemP w p k).2 + w ≤ 64 := by
  obtain ⟨h1, h2⟩ := norm_fit hw hp
  unfold elemP
  generalize (normP w p).1 = W at *
  generalize (normP w p).2 = s at *
  by_cases h3 : k < (64 - s) / w
  · rw [posK_t h3]; simp only []
    rcases hw with rfl | rfl | rfl | rfl | rfl <;> omega
  · rw [posK_f h3]
    rcases hw with rfl | rfl | rfl | rfl | rfl <;> simp only [Nat.reduceDiv, Nat.div_one] at * <;> omega
theorem elem_low {w : Nat} (hw : WOk w) {p : Nat × Nat} (hp : p.2 ≤ 64) (k : Nat) : p.1 ≤ (elemP w p k).1 ∧ (elemP w p k).1 ≤ p.1 + 2 + k := by
  obtain ⟨h1, h2, h4⟩ := norm_fit hw hp
  unfold elemP
  generalize (normP w p).1 = W at *
  generalize (normP w p).2 = s at *
  by_cases h3 : k < (64 - s) / w
  · rw [posK_t h3]; simp only []; omega
  · rw [posK_f h3]
    rcases hw with rfl | rfl | rfl | rfl | rfl <;> simp only [Nat.reduceDiv, Nat.div_one] at * <;> omega
theorem run_ok {w : Nat} (hw : WOk w) {p : Nat × Nat} (hp : p.2 ≤ 64) (k : Nat) : (runP w p k).2 ≤ 64 ∧ p.1 ≤ (runP w p k).1 ∧ (runP w p k).1 ≤ p.1 + 2 + k := by
  cases k with
  | zero => exact ⟨hp, Nat.le_refl _, by show p.1 ≤ _; omega⟩
  | succ k =>
    rw [run_step hw hp]
    have h1 := elem_fit hw hp k
    have h2 := elem_low hw hp k
    exact ⟨h1, h2.1, by show (elemP w p k).1 ≤ _; omega⟩
/-! All fields. -/
def posTo (fs : List F) : Nat → Nat × Nat
  | 0 => (0, 0)
  | i + 1 => nextM (posTo fs i) (fs.getD i default)
def slotAt (fs : List F) (i : Nat) : S := slotM (posTo fs i) (fs.getD i default)
def slotsTo (fs : List F) : Nat → List S
  | 0 => []
  | i + 1 => slotsTo fs i ++ [slotAt fs i]
theorem next_run {p : Nat × Nat} {f : F} (h : 1 ≤ f.cnt) : nextM p f = runP (wN f.ty) p f.cnt.toNat := by
  unfold nextM runP; rw [if_neg (by omega)]
/-- Counts of elements that a layout may have. -/
def CntOk (fs : List F) : Prop := ∀ i, i < fs.length → 1 ≤ (fs.getD i default).cnt ∧ (fs.getD i default).cnt ≤ 3840
theorem posTo_ok {fs : List F} (h : CntOk fs) : ∀ i, i ≤ fs.length → (posTo fs i).2 ≤ 64 ∧ (posTo fs i).1 ≤ i * 3842
  | 0, _ => ⟨Nat.zero_le _, Nat.le_refl _⟩
  | i + 1, hi => by
    have ih := posTo_ok h i (by omega)
    have hc := h i (by omega)
    have := run_ok (wok (fs.getD i default).ty) ih.1 (fs.getD i default).cnt.toNat
    rw [posTo, next_run hc.1]
    exact ⟨this.1, by omega⟩
theorem posTo_mono {fs : List F} (h : CntOk fs) {i : Nat} (hi : i < fs.length) : (posTo fs i).1 ≤ (posTo fs (i + 1)).1 := by
  have hc := h i hi
  have ih := posTo_ok h i (by omega)
  rw [posTo, next_run hc.1]
  exact (run_ok (wok (fs.getD i default).ty) ih.1 (fs.getD i default).cnt.toNat).2.1
/-- An element's place, as the reference lists it. -/
structure Pl where
  fi : Nat
  el : Nat
  wd : Nat
  sh : Nat
  wi : Nat
deriving DecidableEq
instance : Inhabited Pl := ⟨⟨0, 0, 0, 0, 0⟩⟩
def eQ (p : Pl) : PV := .agg [.v (.int .i64 p.fi), .v (.int .i64 p.el), .v (.int .i64 p.wd), .v (.int .i64 p.sh), .v (.int .i64 p.wi)]
def plAt (fs : List F) (i k : Nat) : Pl := ⟨i, k, (elemP (wN (fs.getD i default).ty) (posTo fs i) k).1, (elemP (wN (fs.getD i default).ty) (posTo fs i) k).2, wN (fs.getD i default).ty⟩
def plF (fs : List F) (i : Nat) : Nat → List Pl
  | 0 => []
  | k + 1 => plF fs i k ++ [plAt fs i k]
def pls (fs : List F) : Nat → List Pl
  | 0 => []
  | i + 1 => pls fs i ++ plF fs i (fs.getD i default).cnt.toNat
theorem plF_len (fs : List F) (i : Nat) : ∀ k, (plF fs i k).length = k
  | 0 => rfl
  | k + 1 => by simp [plF, plF_len fs i k]
theorem pls_len {fs : List F} (h : CntOk fs) : ∀ i, i ≤ fs.length → i ≤ (pls fs i).length ∧ (pls fs i).length ≤ i * 3840
  | 0, _ => ⟨Nat.le_refl _, Nat.le_refl _⟩
  | i + 1, hi => by
    have ih := pls_len h i (by omega)
    have hc := h i (by omega)
    rw [pls, List.length_append, plF_len]
    omega
theorem pls_last {fs : List F} (h : CntOk fs) {i : Nat} (hi : i < fs.length) : ((pls fs (i + 1)).getD ((pls fs (i + 1)).length - 1) default).wd = (posTo fs (i + 1)).1 := by
  have hc := h i hi
  have hp := posTo_ok h i (by omega)
  obtain ⟨c, hcc⟩ : ∃ c, (fs.getD i default).cnt.toNat = c + 1 := ⟨(fs.getD i default).cnt.toNat - 1, by omega⟩
  have e1 : (pls fs (i + 1)).getD ((pls fs (i + 1)).length - 1) default = plAt fs i c := by
    rw [pls, hcc, plF, ← List.append_assoc, List.length_append, List.length_singleton, Nat.add_sub_cancel, List.getD_eq_getElem?_getD]
    simp
  rw [e1, posTo, next_run hc.1, hcc, run_step (wok _) hp.1]
  rfl
end Go.Proofs.YtlkffmmgcoiniaaDoor
