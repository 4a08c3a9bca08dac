/- Contracts of functions of this program, and the plain facts that they rest on. No conditions. -/
import Derived.Test.YtlkffmmgcoiniaaDoorD26
set_option linter.unusedSimpArgs false
set_option linter.unusedVariables false
namespace Go.Proofs.YtlkffmmgcoiniaaDoor
open Go Go.Ab
attribute [local irreducible] callK callF loopQ vstep vskip pickE hideP
set_option maxRecDepth 100000
/-! Words put together out of elements. -/
def foldK (y : X) (f : Nat) (c : Nat → Option Nat) (out : List Nat) : Nat → List Nat
  | 0 => out
  | k + 1 => match c k with
    | none => foldK y f c out k
    | some v => putE y (foldK y f c out k) f k v
def foldF (y : X) (c : Nat → Nat → Option Nat) (cnt : Nat → Nat) : Nat → List Nat
  | 0 => List.replicate (wordsM y) 0
  | f + 1 => foldK y f (c f) (foldF y c cnt f) (cnt f)
theorem foldK_ok (y : X) (f : Nat) (c : Nat → Option Nat) {out : List Nat} (hl : out.length = wordsM y) (hu : U64 out) : ∀ k, (foldK y f c out k).length = wordsM y ∧ U64 (foldK y f c out k)
  | 0 => ⟨hl, hu⟩
  | k + 1 => by
    have ih := foldK_ok y f c hl hu k
    rw [foldK]
    cases c k with
    | none => exact ih
    | some v => exact ⟨by rw [putE_len]; exact ih.1, putE_u ih.2 _ _ _⟩
theorem foldF_ok (y : X) (c : Nat → Nat → Option Nat) (cnt : Nat → Nat) : ∀ f, (foldF y c cnt f).length = wordsM y ∧ U64 (foldF y c cnt f)
  | 0 => ⟨by simp [foldF], zero_u _⟩
  | f + 1 => by
    have ih := foldF_ok y c cnt f
    exact foldK_ok y f (c f) ih.1 ih.2 _
/-- What may be put. -/
def Fits (y : X) (f : Nat) (c : Nat → Option Nat) (n : Nat) : Prop := ∀ k v, k < n → c k = some v → (k : Int) < (y.fs.getD f default).cnt ∧ v < 2 ^ wdE y f
theorem foldK_get {y : X} (hc : CntOk y.fs) {f : Nat} (hf : f < y.fs.length) {c : Nat → Option Nat} {out : List Nat} (hl : out.length = wordsM y) (hu : U64 out) {f' j : Nat} (hf' : f' < y.fs.length) (hj : (j : Int) < (y.fs.getD f' default).cnt) :
    ∀ {n : Nat}, Fits y f c n → getE y (foldK y f c out n) f' j = if f' = f ∧ j < n then (c j).getD (getE y out f' j) else getE y out f' j
  | 0, _ => by rw [if_neg (by omega)]; rfl
  | n + 1, h => by
    have ih := foldK_get hc hf hl hu hf' hj (n := n) fun k v hk hv => h k v (by omega) hv
    have hok := foldK_ok y f c hl hu n
    rw [foldK]
    cases hcn : c n with
    | none =>
      rw [show (match (none : Option Nat) with | none => foldK y f c out n | some v => putE y (foldK y f c out n) f n v) = foldK y f c out n from rfl, ih]
      by_cases h1 : f' = f ∧ j < n
      · rw [if_pos h1, if_pos (by omega)]
      · rw [if_neg h1]
        by_cases h2 : f' = f ∧ j < n + 1
        · have : j = n := by omega
          rw [if_pos h2, this, hcn]; rfl
        · rw [if_neg h2]
    | some v =>
      rw [show (match some v with | none => foldK y f c out n | some v => putE y (foldK y f c out n) f n v) = putE y (foldK y f c out n) f n v from rfl]
      obtain ⟨h1, h2⟩ := h n v (by omega) hcn
      by_cases h3 : f' = f ∧ j = n
      · obtain ⟨rfl, rfl⟩ := h3
        rw [get_put_same hc hok.1 hf h1 h2, if_pos ⟨rfl, by omega⟩, hcn]; rfl
      · rw [get_put_other hc hok.1 hf h1 hf' hj (fun e => h3 ⟨e.1.symm, e.2.symm⟩), ih]
        by_cases h4 : f' = f ∧ j < n
        · rw [if_pos h4, if_pos (by omega)]
        · rw [if_neg h4, if_neg (by omega)]
theorem getE_zero (y : X) (n f j : Nat) : getE y (List.replicate n 0) f j = 0 := by
  unfold getE getB
  have : (List.replicate n 0).getD (posE y f j).1 default = 0 := by
    rw [List.getD_eq_getElem?_getD, List.getElem?_replicate]; split <;> rfl
  rw [this]; simp
theorem foldF_get {y : X} (hc : CntOk y.fs) {c : Nat → Nat → Option Nat} {cnt : Nat → Nat} (h : ∀ f, f < y.fs.length → Fits y f (c f) (cnt f)) {f' j : Nat} (hf' : f' < y.fs.length) (hj : (j : Int) < (y.fs.getD f' default).cnt) :
    ∀ {n : Nat}, n ≤ y.fs.length → getE y (foldF y c cnt n) f' j = if f' < n ∧ j < cnt f' then (c f' j).getD 0 else 0
  | 0, _ => by rw [if_neg (by omega)]; exact getE_zero _ _ _ _
  | n + 1, hn => by
    have ih := foldF_get hc h hf' hj (n := n) (by omega)
    have hok := foldF_ok y c cnt n
    rw [foldF, foldK_get hc (by omega) hok.1 hok.2 hf' hj (h n (by omega)), ih]
    by_cases h1 : f' = n
    · subst h1
      rw [if_neg (show ¬ (f' < f' ∧ j < cnt f') by omega)]
      by_cases h2 : j < cnt f'
      · rw [if_pos ⟨rfl, h2⟩, if_pos ⟨by omega, h2⟩]
      · rw [if_neg (by omega), if_neg (by omega)]
    · rw [if_neg (fun h => h1 h.1)]
      by_cases h2 : f' < n ∧ j < cnt f'
      · rw [if_pos h2, if_pos (by omega)]
      · rw [if_neg h2, if_neg (by omega)]
theorem foldK_congr {y : X} {f : Nat} {c c' : Nat → Option Nat} {out : List Nat} : ∀ {n : Nat}, (∀ k, k < n → c k = c' k) → foldK y f c out n = foldK y f c' out n
  | 0, _ => rfl
  | n + 1, h => by rw [foldK, foldK, foldK_congr fun k hk => h k (by omega), h n (by omega)]
/-- Convert as such a putting together. -/
def cvC (x y : X) (ws : List Nat) (f k : Nat) : Option Nat := match fnd x (y.fs.getD f default).nm with
  | none => none
  | some g => if (y.fs.getD f default).cnt ≤ k then none else some (getE x ws g k)
def cvN (x y : X) (f : Nat) : Nat := match fnd x (y.fs.getD f default).nm with
  | none => 0
  | some g => (x.fs.getD g default).cnt.toNat
theorem cvK_fold {x y : X} {ws out : List Nat} {f g : Nat} (hg : fnd x (y.fs.getD f default).nm = some g) : ∀ n, cvK x y ws f g out n = foldK y f (cvC x y ws f) out n
  | 0 => rfl
  | n + 1 => by
    rw [foldK, ← cvK_fold hg n]
    have e : cvC x y ws f n = if (y.fs.getD f default).cnt ≤ n then none else some (getE x ws g n) := by unfold cvC; rw [hg]
    rw [e]
    by_cases h : (y.fs.getD f default).cnt ≤ n
    · rw [cvK_ge h, if_pos h]
    · rw [cvK_lt h, if_neg h]
theorem cvF_fold (x y : X) (ws : List Nat) : ∀ n, cvF x y ws n = foldF y (cvC x y ws) (cvN x y) n
  | 0 => rfl
  | n + 1 => by
    rw [foldF, ← cvF_fold x y ws n]
    cases hg : fnd x (y.fs.getD n default).nm with
    | none => rw [cvF_n hg, show cvN x y n = 0 by unfold cvN; rw [hg]]; rfl
    | some g => rw [cvF_s hg, cvK_fold hg, show cvN x y n = (x.fs.getD g default).cnt.toNat by unfold cvN; rw [hg]]
/-! The wide layout. -/
def widen (f : F) : F := ⟨f.nm, if f.ty ≠ 2 ∧ f.ty ≠ 7 then 1 else f.ty, f.cnt + 1⟩
def wideL (fs : List F) (j : Nat) : List F := (List.range j).map fun i => widen (fs.getD (fs.length - 1 - i) default)
def wideX (x : X) : X := ⟨[119, 105, 100, 101], 2, wideL x.fs x.fs.length⟩
theorem wideL_len (fs : List F) (j : Nat) : (wideL fs j).length = j := by simp [wideL]
theorem wideL_s (fs : List F) (j : Nat) : wideL fs (j + 1) = wideL fs j ++ [widen (fs.getD (fs.length - 1 - j) default)] := by simp [wideL, List.range_succ]
theorem wideL_at (fs : List F) {j i : Nat} (h : i < j) : (wideL fs j).getD i default = widen (fs.getD (fs.length - 1 - i) default) := by
  unfold wideL
  rw [List.getD_eq_getElem?_getD, List.getElem?_map, List.getElem?_range h]; rfl
theorem wide_ty {t : Int} (h : 1 ≤ t ∧ t ≤ 7) : 1 ≤ (if t ≠ 2 ∧ t ≠ 7 then 1 else t) ∧ (if t ≠ 2 ∧ t ≠ 7 then (1 : Int) else t) ≤ 7 := by split <;> omega
theorem wide_len (x : X) : (wideX x).fs.length = x.fs.length := wideL_len _ _
theorem wide_at (x : X) {i : Nat} (h : i < x.fs.length) : (wideX x).fs.getD i default = widen (x.fs.getD (x.fs.length - 1 - i) default) := wideL_at _ h
theorem wide_err {x : X} (G : Good x) : ∀ k, k < (wideX x).fs.length → errF (wideX x).fs k = 0 := by
  intro k hk
  rw [wide_len] at hk
  obtain ⟨h1, h2, h3⟩ := okF (G.err (x.fs.length - 1 - k) (by omega))
  have ha := wide_at x hk
  have hw := wide_ty ⟨h2.1, h2.2.1⟩
  have hs : seenF (wideX x).fs k (.string (bs ((wideX x).fs.getD k default).nm)) = false := by
    rw [← Bool.not_eq_true]
    intro hs
    obtain ⟨q, hq1, hq2⟩ := seen_iff hs
    rw [ha, wide_at x (by omega)] at hq2
    exact names_ne G.err (i := x.fs.length - 1 - q) (k := x.fs.length - 1 - k) (by omega) (by omega) hq2.symm
  unfold errF
  rw [hs, ha]
  rw [if_neg (by show ¬ nameM (x.fs.getD (x.fs.length - 1 - k) default).nm = false; rw [h1]; simp), if_neg (by simp only [Decidable.not_not]; exact ⟨hw.1, hw.2, by show 1 ≤ (x.fs.getD (x.fs.length - 1 - k) default).cnt + 1; omega⟩), if_neg (by simp)]
theorem wide_new {x : X} (G : Good x) : newE (wideX x) = 0 ∨ newE (wideX x) = 9 := by
  have h := newE_end (x := wideX x) (show nameM [119, 105, 100, 101] = true by decide) (by
    have := G.arg
    rw [wide_len]
    show ¬ ((2 : Int) < 1 ∨ 65535 < (2 : Int) ∨ x.fs.length = 0)
    omega) (wide_err G)
  rw [h]; split
  · exact .inr rfl
  · exact .inl rfl
/-- A field's number in the other layout. -/
theorem wide_fnd {x : X} (G : Good x) (GY : Good (wideX x)) {f : Nat} (hf : f < x.fs.length) : fnd x ((wideX x).fs.getD f default).nm = some (x.fs.length - 1 - f) ∧ fnd (wideX x) (x.fs.getD f default).nm = some (x.fs.length - 1 - f) := by
  constructor
  · rw [wide_at x hf]
    exact fnd_at G (j := x.fs.length - 1 - f) (by omega)
  · have := fnd_at GY (j := x.fs.length - 1 - f) (by rw [wide_len]; omega)
    rw [wide_at x (by omega), show x.fs.length - 1 - (x.fs.length - 1 - f) = f by omega] at this
    exact this
theorem wide_w {x : X} (G : Good x) {f : Nat} (hf : f < x.fs.length) : wdE (wideX x) (x.fs.length - 1 - f) = 64 := by
  have h := tyG G hf
  show wN ((wideX x).fs.getD (x.fs.length - 1 - f) default).ty = 64
  rw [wide_at x (by omega), show x.fs.length - 1 - (x.fs.length - 1 - f) = f by omega]
  show wN (if (x.fs.getD f default).ty ≠ 2 ∧ (x.fs.getD f default).ty ≠ 7 then 1 else (x.fs.getD f default).ty) = 64
  split
  · rfl
  · rename_i h1
    have : (x.fs.getD f default).ty = 2 ∨ (x.fs.getD f default).ty = 7 := by omega
    rcases this with e | e <;> rw [e] <;> rfl
theorem wide_tyc {x : X} {f : Nat} (hf : f < x.fs.length) : ((wideX x).fs.getD (x.fs.length - 1 - f) default).ty = (if (x.fs.getD f default).ty ≠ 2 ∧ (x.fs.getD f default).ty ≠ 7 then 1 else (x.fs.getD f default).ty) ∧ ((wideX x).fs.getD (x.fs.length - 1 - f) default).cnt = (x.fs.getD f default).cnt + 1 := by
  rw [wide_at x (by omega), show x.fs.length - 1 - (x.fs.length - 1 - f) = f by omega]
  exact ⟨rfl, rfl⟩
theorem wide_27 {t : Int} (h : 1 ≤ t ∧ t ≤ 7) (c : Int) (hc : c = 2 ∨ c = 7) : (if t ≠ 2 ∧ t ≠ 7 then 1 else t) = c ↔ t = c := by split <;> omega
theorem badV_fit {v : Nat} {a b : Int} (h : a = 2 ↔ b = 2) (hv : v < 2 ^ wN b) : badV v a b = false := by
  rw [← Bool.not_eq_true]
  intro hh
  rcases badV_iff.1 hh with h1 | h1
  · exact h1.2 h
  · have := msk_iff.1 h1; omega
/-- There, and back. -/
theorem there_ok {x : X} (G : Good x) (GY : Good (wideX x)) {ws : List Nat} (hw : ws.length = wordsM x) : convR x (wideX x) ws = (cvF x (wideX x) ws x.fs.length, 0) := by
  have := convR_0 (y := wideX x) hw (fun f hf => by
    rw [wide_len] at hf
    have hn := (wide_fnd G GY hf).1
    have hcy := wide_tyc (x := x) (f := x.fs.length - 1 - f) (by omega)
    rw [show x.fs.length - 1 - (x.fs.length - 1 - f) = f by omega] at hcy
    have hty := tyG G (show x.fs.length - 1 - f < x.fs.length by omega)
    have hww := wide_w G (show x.fs.length - 1 - f < x.fs.length by omega)
    rw [show x.fs.length - 1 - (x.fs.length - 1 - f) = f by omega] at hww
    rw [errC_s hn]
    refine errG_0 (by rw [hcy.1]; exact (wide_27 hty 7 (.inr rfl)).symm) fun k hk => ?_
    rw [badK_lt (by rw [hcy.2]; omega)]
    refine badV_fit (by rw [hcy.1]; exact (wide_27 hty 2 (.inl rfl)).symm) ?_
    rw [show wN ((wideX x).fs.getD f default).ty = 64 from hww]
    exact getE_64 _ _ _ _)
  rw [wide_len] at this
  exact this
theorem there_get {x : X} (G : Good x) (GY : Good (wideX x)) {ws : List Nat} (hw : ws.length = wordsM x) {f k : Nat} (hf : f < x.fs.length) (hk : (k : Int) < (x.fs.getD f default).cnt + 1) :
    getE (wideX x) (cvF x (wideX x) ws x.fs.length) (x.fs.length - 1 - f) k = if (k : Int) < (x.fs.getD f default).cnt then getE x ws f k else 0 := by
  have hcy := wide_tyc (x := x) hf
  have hl := wide_len x
  rw [cvF_fold]
  have hN : cvN x (wideX x) (x.fs.length - 1 - f) = (x.fs.getD f default).cnt.toNat := by
    unfold cvN
    rw [(wide_fnd G GY (show x.fs.length - 1 - f < x.fs.length by omega)).1]
    simp only []
    rw [show x.fs.length - 1 - (x.fs.length - 1 - f) = f by omega]
  rw [foldF_get GY.cnt (fun f hf k v hk hv => by
    rw [hl] at hf
    have hww := wide_w G (show x.fs.length - 1 - f < x.fs.length by omega)
    rw [show x.fs.length - 1 - (x.fs.length - 1 - f) = f by omega] at hww
    unfold cvC at hv
    rw [(wide_fnd G GY hf).1] at hv
    simp only [] at hv
    split at hv
    · cases hv
    · rename_i h1
      simp only [Option.some.injEq] at hv
      subst hv
      rw [hww]
      exact ⟨by omega, getE_64 _ _ _ _⟩) (by rw [hl]; omega) (by rw [hcy.2]; exact hk) (by omega), hN]
  have hC : cvC x (wideX x) ws (x.fs.length - 1 - f) k = some (getE x ws f k) := by
    unfold cvC
    rw [(wide_fnd G GY (show x.fs.length - 1 - f < x.fs.length by omega)).1]
    simp only []
    rw [if_neg (by rw [hcy.2]; omega), show x.fs.length - 1 - (x.fs.length - 1 - f) = f by omega]
  rw [hC]
  have hcc := G.cnt f hf
  by_cases h1 : (k : Int) < (x.fs.getD f default).cnt
  · rw [if_pos ⟨by omega, by omega⟩, if_pos h1]; rfl
  · rw [if_neg (by omega), if_neg h1]
theorem back_ok {x : X} (G : Good x) (GY : Good (wideX x)) {val : Nat → Nat → Nat} (hval : ∀ f k, f < x.fs.length → val f k < 2 ^ wdE x f) {ws : List Nat} (hws : ws = foldF x (fun f k => some (val f k)) (fun f => (x.fs.getD f default).cnt.toNat) x.fs.length) :
    convR (wideX x) x (cvF x (wideX x) ws x.fs.length) = (ws, 0) := by
  have hwl : ws.length = wordsM x := by rw [hws]; exact (foldF_ok _ _ _ _).1
  have hget : ∀ {f k : Nat}, f < x.fs.length → (k : Int) < (x.fs.getD f default).cnt → getE x ws f k = val f k := fun {f k} hf hk => by
    rw [hws, foldF_get G.cnt (fun f hf k v hk hv => by simp only [Option.some.injEq] at hv; subst hv; have := G.cnt f hf; exact ⟨by omega, hval f k hf⟩) hf hk (Nat.le_refl _), if_pos ⟨hf, by omega⟩]; rfl
  have hthere := (cvF_ok x (wideX x) ws x.fs.length).1
  have h0 := convR_0 (x := wideX x) (y := x) hthere (fun f hf => by
    have hn := (wide_fnd G GY hf).2
    have hcy := wide_tyc hf
    have hty := tyG G hf
    rw [errC_s hn]
    refine errG_0 (by rw [hcy.1]; exact wide_27 hty 7 (.inr rfl)) fun k hk => ?_
    rw [hcy.2] at hk
    have hcc := G.cnt f hf
    have hg := there_get G GY hwl hf (k := k) (by omega)
    by_cases hk2 : (x.fs.getD f default).cnt ≤ k
    · rw [badK_ge hk2, hg, if_neg (by omega)]; rfl
    · rw [badK_lt hk2, hg, if_pos (by omega)]
      exact badV_fit (by rw [hcy.1]; exact wide_27 hty 2 (.inl rfl)) (getE_lt x ws f k))
  rw [h0]
  congr 1
  rw [cvF_fold, hws]
  have hws' := hws
  have key : ∀ n, n ≤ x.fs.length → foldF x (cvC (wideX x) x (cvF x (wideX x) ws x.fs.length)) (cvN (wideX x) x) n = foldF x (fun f k => some (val f k)) (fun f => (x.fs.getD f default).cnt.toNat) n := by
    intro n
    induction n with
    | zero => intro _; rfl
    | succ n ih =>
      intro hn
      rw [foldF, foldF, ih (by omega)]
      have hf : n < x.fs.length := by omega
      have hcc := G.cnt n hf
      have hcy := wide_tyc hf
      have hN : cvN (wideX x) x n = (x.fs.getD n default).cnt.toNat + 1 := by
        unfold cvN; rw [(wide_fnd G GY hf).2]; simp only []; rw [hcy.2]; omega
      have hC : ∀ k, cvC (wideX x) x (cvF x (wideX x) ws x.fs.length) n k = if (x.fs.getD n default).cnt ≤ k then none else some (getE (wideX x) (cvF x (wideX x) ws x.fs.length) (x.fs.length - 1 - n) k) := fun k => by
        unfold cvC; rw [(wide_fnd G GY hf).2]
      rw [hN, foldK, hC, if_pos (by omega)]
      refine foldK_congr fun k hk => ?_
      rw [hC, if_neg (by omega), there_get G GY hwl hf (by omega), if_pos (by omega), hget hf (by omega)]
  rw [← hws]
  rw [key _ (Nat.le_refl _)]
  exact hws.symm
end Go.Proofs.YtlkffmmgcoiniaaDoor
