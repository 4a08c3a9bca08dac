/- Contracts of functions of this program, and the plain facts that they rest on. No conditions. -/
import Derived.Test.YtpcjeaaplidmaaaGreatDoorHiDQ
set_option linter.unusedSimpArgs false
set_option linter.unusedVariables false
namespace Go.Proofs.YtpcjeaaplidmaaaGreatDoor.Hi
open Go Go.Ab
attribute [local irreducible] callK callF loopQ vstep vskip pickE hideP
theorem gA_lt {α : Type} (l : List α) (c d : α) (j : Nat) (h : j < l.length) : (l ++ [c]).getD j d = l.getD j d := by simp [List.getD_eq_getElem?_getD, List.getElem?_append_left h]
theorem gA_eq {α : Type} (l : List α) (c d : α) : (l ++ [c]).getD l.length d = c := by simp [List.getD_eq_getElem?_getD]
theorem gS_ne {α : Type} (l : List α) (c d : α) (i j : Nat) (h : j ≠ i) : (l.set i c).getD j d = l.getD j d := by simp [List.getD_eq_getElem?_getD, List.getElem?_set_ne (Ne.symm h)]
theorem busy_false {l : List C} {e t : Int} (h : ∀ j, j < l.length → ¬ goes e t (l.getD j default)) : busyM l e t = false := by
 cases hb : busyM l e t with
 | false => rfl
 | true => obtain ⟨j, hj, hg⟩ := busyM_iff.1 hb; exact absurd hg (h j hj)
theorem busy_eq {l l' : List C} {e t : Int} (h : (∃ j, j < l.length ∧ goes e t (l.getD j default)) ↔ ∃ j, j < l'.length ∧ goes e t (l'.getD j default)) : busyM l e t = busyM l' e t := by
 rw [Bool.eq_iff_iff, busyM_iff, busyM_iff]; exact h
theorem inv_h0 : Inv h0 := ⟨fun t _ _ => rfl, fun i h => by simp [h0] at h, fun i k h1 h2 => by simp [h0] at h2, fun a h => by simp [h0] at h, Int.le_refl _⟩
theorem EachI.up {n n' e e' : Int} {c : C} (h : EachI n e c) (h1 : n ≤ n') (h2 : e ≤ e') : EachI n' e' c := by unfold EachI at *; omega
theorem inv_inv {x : H} {th k key val old : Int} (hI : Inv x) (h1 : 0 ≤ th ∧ th < 8) (h2 : 1 ≤ k ∧ k ≤ 9) (hb : busyM x.cl x.era th = false) : Inv (invH x th k key val old) := by
 have hlt : ∀ j, j < x.cl.length → gc (invH x th k key val old) j = gc x j := fun j hj => gA_lt _ _ _ _ hj
 have heq : gc (invH x th k key val old) x.cl.length = newC th k key val old x.ev.length x.era := gA_eq _ _ _
 have hln : (invH x th k key val old).cl.length = x.cl.length + 1 := by simp [invH]
 have hen : (invH x th k key val old).ev.length = x.ev.length + 1 := by simp [invH]
 have hera : (invH x th k key val old).era = x.era := rfl
 refine ⟨fun t ht0 ht8 => ?_, fun i hi => ?_, fun i j hij hj => ?_, fun a ha => ?_, hI.era⟩
 ·show (if t.toNat = th.toNat then true else x.b t.toNat) = busyM (x.cl ++ [newC th k key val old x.ev.length x.era]) x.era t
  have e : busyM (x.cl ++ [newC th k key val old x.ev.length x.era]) x.era t = (busyM x.cl x.era t || decide (goes x.era t (newC th k key val old x.ev.length x.era))) := by simp [busyM]
  rw [e, hI.b t ht0 ht8]
  by_cases htt : t = th
  ·subst htt; simp [goes, newC]
  ·rw [if_neg (by omega), decide_eq_false (by unfold goes newC; simp; omega)]; simp
 ·rw [hen, hera]
  by_cases hj : i < x.cl.length
  ·rw [hlt i hj]; exact (hI.each i hj).up (by omega) (by omega)
  ·have : i = x.cl.length := by omega
   subst this
   rw [heq]
   have := hI.era
   unfold EachI newC; simp; omega
 ·by_cases hj2 : j < x.cl.length
  ·rw [hlt j hj2, hlt i (by omega)]; exact hI.ord i j hij hj2
  ·have : j = x.cl.length := by omega
   subst this
   rw [heq, hlt i hij]
   have g1 := hI.each i hij
   unfold EachI at g1
   unfold OrdI newC
   dsimp only
   refine ⟨by omega, by omega, fun hth => ?_⟩
   by_cases h5 : (gc x i).era < x.era
   ·exact .inl h5
   ·right
    rcases g1.2.2.2.1 with h6 | h6
    ·have : busyM x.cl x.era th = true := busyM_iff.2 ⟨i, hij, hth, by show (gc x i).en < 0; omega, by show (gc x i).era = x.era; omega⟩
     rw [hb] at this; cases this
    ·omega
 ·have hall : ∀ j, j < x.cl.length → (gc x j).bg < x.ev.length ∧ (gc x j).en < x.ev.length := fun j hj => by
   have := hI.each j hj; unfold EachI at this; omega
  by_cases ha2 : a < x.ev.length
  ·have hev : (invH x th k key val old).ev.getD a default = x.ev.getD a default := gA_lt _ _ _ _ ha2
   have h7 := hI.evs a ha2
   unfold EvI at h7 ⊢
   rw [hev, hln]
   have hn : (gc (invH x th k key val old) x.cl.length).bg ≠ a ∧ (gc (invH x th k key val old) x.cl.length).en ≠ a := by rw [heq]; unfold newC; dsimp only; omega
   rcases h7 with ⟨i, g1, g2, g3, g4⟩ | ⟨i, g1, g2, g3, g4⟩ | ⟨g1, g2⟩
   ·refine .inl ⟨i, by omega, g2, by rw [hlt i g1]; exact g3, fun j hj => ?_⟩
    by_cases hj2 : j < x.cl.length
    ·rw [hlt j hj2]; exact g4 j hj2
    ·have : j = x.cl.length := by omega
     subst this; exact ⟨fun _ => hn.1, hn.2⟩
   ·refine .inr (.inl ⟨i, by omega, g2, by rw [hlt i g1]; exact g3, fun j hj => ?_⟩)
    by_cases hj2 : j < x.cl.length
    ·rw [hlt j hj2]; exact g4 j hj2
    ·have : j = x.cl.length := by omega
     subst this; exact ⟨hn.1, fun _ => hn.2⟩
   ·refine .inr (.inr ⟨g1, fun j hj => ?_⟩)
    by_cases hj2 : j < x.cl.length
    ·rw [hlt j hj2]; exact g2 j hj2
    ·have : j = x.cl.length := by omega
     subst this; exact hn
  ·have : a = x.ev.length := by omega
   subst this
   refine .inl ⟨x.cl.length, by omega, gA_eq _ _ _, by rw [heq]; rfl, fun j hj => ?_⟩
   by_cases hj2 : j < x.cl.length
   ·rw [hlt j hj2]; have := hall j hj2; exact ⟨fun _ => by omega, by omega⟩
   ·have : j = x.cl.length := by omega
    subst this
    rw [heq]
    exact ⟨fun h => absurd rfl h, by unfold newC; dsimp only; omega⟩
theorem inv_ret {x : H} {i rv : Int} {ok : Bool} {code : Int} (hI : Inv x) (hp : pendM x.cl i) (he : (x.cl.getD i.toNat default).era = x.era) : Inv (retH x i rv ok code) := by
 unfold pendM at hp
 obtain ⟨j0, rfl⟩ := Int.eq_ofNat_of_zero_le hp.1.1
 simp only [Int.toNat_natCast] at hp he
 have hj0 : j0 < x.cl.length := by omega
 have hp2 : (gc x j0).en < 0 := hp.2
 have he2 : (gc x j0).era = x.era := he
 generalize hy : retH x (j0 : Int) rv ok code = y
 have hne : ∀ j, j ≠ j0 → gc y j = gc x j := fun j hj => by subst hy; exact gS_ne _ _ _ _ _ hj
 have heq : gc y j0 = endC (gc x j0) x.ev.length rv ok code := by subst hy; exact getD_set_self _ _ _ _ hj0
 have hln : y.cl.length = x.cl.length := by subst hy; simp [retH]
 have hen : y.ev.length = x.ev.length + 1 := by subst hy; simp [retH]
 have hera : y.era = x.era := by subst hy; rfl
 have hev : ∀ a, a < x.ev.length → y.ev.getD a default = x.ev.getD a default := fun a ha => by subst hy; exact gA_lt _ _ _ _ ha
 have hevn : y.ev.getD x.ev.length default = (2, (j0 : Int)) := by subst hy; exact gA_eq _ _ _
 have hyb : ∀ t, y.b t = if t = (gc x j0).th.toNat then false else x.b t := fun t => by subst hy; rfl
 have hall : ∀ j, j < x.cl.length → (gc x j).bg < x.ev.length ∧ (gc x j).en < x.ev.length := fun j hj => by
  have := hI.each j hj; unfold EachI at this; omega
 clear hy
 have e0 := hI.each j0 hj0
 unfold EachI at e0
 refine ⟨fun t ht0 ht8 => ?_, fun i hi => ?_, fun i j hij hj => ?_, fun a ha => ?_, by rw [hera]; exact hI.era⟩
 ·rw [hyb, hera]
  by_cases htt : t = (gc x j0).th
  ·rw [if_pos (by rw [htt])]
   symm
   refine busy_false fun j hj hg => ?_
   rw [hln] at hj
   have hg' : goes x.era t (gc y j) := hg
   by_cases hjj : j = j0
   ·subst hjj
    rw [heq] at hg'
    unfold goes endC at hg'
    dsimp only at hg'; omega
   ·rw [hne j hjj] at hg'
    unfold goes at hg'
    rcases Nat.lt_or_gt_of_ne hjj with h | h
    ·have := hI.ord j j0 h hj0; unfold OrdI at this; omega
    ·have := hI.ord j0 j h hj; unfold OrdI at this; omega
  ·rw [if_neg (by omega), hI.b t ht0 ht8]
   refine busy_eq ⟨fun ⟨j, h1, h2⟩ => ?_, fun ⟨j, h1, h2⟩ => ?_⟩
   ·have hjj : j ≠ j0 := fun hh => by subst hh; exact htt h2.1.symm
    exact ⟨j, by omega, by show goes _ _ (gc y j); rw [hne j hjj]; exact h2⟩
   ·have h2' : goes x.era t (gc y j) := h2
    have hjj : j ≠ j0 := fun hh => by
     subst hh; rw [heq] at h2'; exact htt h2'.1.symm
    rw [hne j hjj] at h2'
    exact ⟨j, by omega, h2'⟩
 ·rw [hen, hera]
  by_cases hii : i = j0
  ·subst hii
   rw [heq]; unfold EachI endC; dsimp only; omega
  ·rw [hne i hii]; exact (hI.each i (by omega)).up (by omega) (by omega)
 ·have ho := hI.ord i j hij (by omega)
  by_cases hii : i = j0
  ·subst hii
   rw [heq, hne j (by omega)]
   unfold OrdI endC at *
   dsimp only
   have := hall j (by omega)
   omega
  ·rw [hne i hii]
   by_cases hjj : j = j0
   ·subst hjj; rw [heq]; exact ho
   ·rw [hne j hjj]; exact ho
 ·have hbg : ∀ j, (gc y j).bg = (gc x j).bg := fun j => by
   by_cases h : j = j0
   ·subst h; rw [heq]; rfl
   ·rw [hne j h]
  have hE : ∀ j, j ≠ j0 → (gc y j).en = (gc x j).en := fun j h => by rw [hne j h]
  have hE0 : (gc y j0).en = x.ev.length := by rw [heq]; rfl
  by_cases ha2 : a < x.ev.length
  ·have h7 := hI.evs a ha2
   unfold EvI at h7 ⊢
   rw [hev a ha2, hln]
   rcases h7 with ⟨i, g1, g2, g3, g4⟩ | ⟨i, g1, g2, g3, g4⟩ | ⟨g1, g2⟩
   ·refine .inl ⟨i, g1, g2, by rw [hbg]; exact g3, fun j hj => ?_⟩
    rw [hbg]
    refine ⟨(g4 j hj).1, ?_⟩
    by_cases h : j = j0
    ·subst h; omega
    ·rw [hE j h]; exact (g4 j hj).2
   ·have hij : i ≠ j0 := fun hh => by subst hh; omega
    refine .inr (.inl ⟨i, g1, g2, by rw [hE i hij]; exact g3, fun j hj => ?_⟩)
    rw [hbg]
    refine ⟨(g4 j hj).1, fun hji => ?_⟩
    by_cases h : j = j0
    ·subst h; omega
    ·rw [hE j h]; exact (g4 j hj).2 hji
   ·refine .inr (.inr ⟨g1, fun j hj => ?_⟩)
    rw [hbg]
    refine ⟨(g2 j hj).1, ?_⟩
    by_cases h : j = j0
    ·subst h; omega
    ·rw [hE j h]; exact (g2 j hj).2
  ·have : a = x.ev.length := by omega
   subst this
   refine .inr (.inl ⟨j0, by omega, hevn, hE0, fun j hj => ?_⟩)
   rw [hln] at hj
   rw [hbg]
   have h8 := hall j hj
   refine ⟨by omega, fun h => ?_⟩
   rw [hE j h]; omega
theorem inv_crash {x : H} (hI : Inv x) : Inv (crashH x) := by
 refine ⟨fun t ht0 ht8 => ?_, fun i hi => ?_, fun i j hij hj => hI.ord i j hij hj, fun a ha => ?_, by have := hI.era; show 0 ≤ x.era + 1; omega⟩
 ·symm
  refine busy_false fun j hj hg => ?_
  have := hI.each j hj
  unfold EachI at this
  have h2 : (gc x j).era = x.era + 1 := hg.2.2
  omega
 ·refine (hI.each i hi).up ?_ ?_
  ·show (x.ev.length : Int) ≤ ((x.ev ++ [(3, 0)]).length : Nat); simp; omega
  ·show x.era ≤ x.era + 1; omega
 ·have ha' : a < x.ev.length + 1 := by simpa [crashH] using ha
  by_cases ha2 : a < x.ev.length
  ·have h7 := hI.evs a ha2
   unfold EvI at h7 ⊢
   rw [show (crashH x).ev.getD a default = x.ev.getD a default from gA_lt _ _ _ _ ha2]
   exact h7
  ·have : a = x.ev.length := by omega
   subst this
   refine .inr (.inr ⟨gA_eq _ _ _, fun j hj => ?_⟩)
   have := hI.each j hj
   unfold EachI at this
   show (gc x j).bg ≠ _ ∧ (gc x j).en ≠ _
   omega
theorem inv_do {x : H} {s : S} (hI : Inv x) : Inv (doH x s) := by
 unfold doH
 split
 ·split
  ·rename_i h; exact inv_inv hI ⟨h.1, h.2.1⟩ ⟨h.2.2.1, h.2.2.2.1⟩ h.2.2.2.2
  ·exact hI
 ·split
  ·split
   ·rename_i h; exact inv_ret hI h.1 h.2
   ·exact hI
  ·exact inv_crash hI
theorem do_len (x : H) (s : S) : (doH x s).ev.length ≤ x.ev.length + 1 ∧ (doH x s).cl.length ≤ x.cl.length + 1 ∧ (doH x s).era ≤ x.era + 1 := by
 unfold doH
 split
 ·split
  ·simp [invH]; omega
  ·omega
 ·split
  ·split
   ·simp [retH]; omega
   ·omega
  ·simp [crashH]
end Go.Proofs.YtpcjeaaplidmaaaGreatDoor.Hi