/- Contracts of functions of this program, and the plain facts that they rest on. No conditions. -/
import Derived.Test.YtpcjeaaplidmaaaDoorLinQQ
import Derived.Test.YtpcjeaaplidmaaaDoorLinHQ
set_option linter.unusedSimpArgs false
set_option linter.unusedVariables false
namespace Go.Proofs.YtpcjeaaplidmaaaDoor
open Go Go.Ab
attribute [local irreducible] callK callF loopQ vstep vskip pickE hideP
open Go.RowKit
set_option maxRecDepth 100000
theorem cont_nn {s : Sp.S} {b : Nat} (h : OkS s b) : NonN (Sp.contM s) := fun p hp => by
 unfold Sp.contM at hp
 split at hp
 ·rw [List.mem_singleton.1 hp]; exact ⟨Int.le_refl _, h.n.1⟩
 ·split at hp
  ·exact ⟨(h.ps p hp).1.1, (h.ps p hp).2.1⟩
  ·obtain ⟨⟨j, h1, h2⟩, h3⟩ := enum_mem _ _ _ hp
   exact ⟨by omega, (h.vs _ h3).1⟩
theorem apply_k (s : Sp.S) (o : Sp.O) : (Sp.applyM s o).1.k = s.k := by
 unfold Sp.applyM Sp.regM Sp.queM
 rw [Sp.map_pl]
 unfold Sp.mapP'
 repeat' split
 all_goals rfl
theorem val_of {k : Int} {s : Sp.S} {b : Nat} (h : OkS s b) (hk : s.k = k) : Val k s := ⟨h.neat, hk, cont_nn h, b, h⟩
theorem val_ini {k : Int} (hk : Sp.newK k = k) : Val k (ini k) := val_of (ok_ini k hk) hk
theorem val_nxt {k : Int} {l : List Hi.C} (hro : ∀ i, i < l.length → RngO (opC (l.getD i default))) (s : Sp.S) (i : Nat) (h : Val k s) (hi : i < l.length) : Val k (nxt l s i) := by
 obtain ⟨b, hb⟩ := h.ok
 exact val_of (ok_apply hb (hro i hi)) (by unfold nxt; rw [apply_k, h.k])
theorem path_idx {cl : List Hi.C} : ∀ (o : List Nat) (s : Sp.S) (used : Nat), (∀ i, i < o.length → can cl (endS cl s (o.take i)) (endU used (o.take i)) (o.getD i 0)) → pathOk cl s used o
 | [], _, _, _ => trivial
 | a :: o, s, used, h => ⟨h 0 (by simp), path_idx o _ _ fun i hi => h (i + 1) (by simpa using hi)⟩
theorem endU_bit : ∀ (o : List Nat) (u a : Nat), (endU u o).testBit a = (u.testBit a || decide (a ∈ o))
 | [], u, a => by simp [endU]
 | i :: o, u, a => by
  rw [endU, endU_bit o, Nat.testBit_or, Nat.testBit_two_pow, Bool.or_assoc]
  congr 1
  by_cases h : i = a
  ·subst h; simp
  ·rw [decide_eq_false h, Bool.false_or]
   refine decide_eq_decide.2 ?_
   rw [List.mem_cons]
   exact ⟨.inr, fun hh => hh.resolve_left fun e => h e.symm⟩
theorem endS_app (cl : List Hi.C) : ∀ (o : List Nat) (s : Sp.S) (i : Nat), endS cl s (o ++ [i]) = nxt cl (endS cl s o) i
 | [], _, _ => rfl
 | a :: o, s, i => endS_app cl o (nxt cl s a) i
theorem skip_false {cl : List Hi.C} {used i : Nat} : skipB cl used i = false ↔ used.testBit i = false ∧ ∀ a, a < cl.length → used.testBit a = true → ¬ Hi.befM cl i a := by
 unfold skipB
 rw [Bool.or_eq_false_iff, decide_eq_false_iff_not]
 constructor
 ·rintro ⟨h1, h2⟩
  refine ⟨h1, fun a ha hu hb => h2 fun h3 => ?_⟩
  have := congrArg (fun x => x.testBit a) h3
  simp only [Nat.testBit_and, Nat.zero_testBit, mask_bit, hu, befP, decide_eq_true ha, decide_eq_true hb] at this
  cases this
 ·rintro ⟨h1, h2⟩
  refine ⟨h1, fun h3 => h3 ?_⟩
  apply Nat.eq_of_testBit_eq
  intro a
  rw [Nat.testBit_and, mask_bit, Nat.zero_testBit]
  by_cases ha : a < cl.length
  ·cases hu : used.testBit a with
   | false => rw [Bool.and_false]
   | true => unfold befP; rw [decide_eq_false (h2 a ha hu), Bool.and_false, Bool.false_and]
  ·rw [decide_eq_false ha, Bool.false_and, Bool.false_and]
theorem end_sub {cl : List Hi.C} {u : Nat} : endN cl &&& u = endN cl ↔ ∀ a, a < cl.length → 0 ≤ (cl.getD a default).en → u.testBit a = true := by
 constructor
 ·intro h a ha he
  have := congrArg (fun x => x.testBit a) h
  simp only [Nat.testBit_and, endN, mask_bit, decide_eq_true ha, endP, decide_eq_true he, Bool.true_and] at this
  exact this
 ·intro h
  apply Nat.eq_of_testBit_eq
  intro a
  rw [Nat.testBit_and, endN, mask_bit]
  by_cases ha : a < cl.length
  ·by_cases he : 0 ≤ (cl.getD a default).en
   ·rw [h a ha he, Bool.and_true]
   ·unfold endP; rw [decide_eq_false he, Bool.and_false, Bool.false_and]
  ·rw [decide_eq_false ha, Bool.false_and, Bool.false_and]
theorem bg_ge {l : List Hi.C} {o : List Int} : ∀ (i j : Nat), j < i → (cO l o j).bg ≤ bgT l o i ∧ (cO l o j).era ≤ eraT l o i
 | i + 1, j, h => by
  rw [bgT_s, eraT_s]
  rcases Nat.lt_or_ge j i with h4 | h4
  ·have := bg_ge (l := l) (o := o) i j h4; omega
  ·obtain rfl : j = i := by omega
   omega
theorem toN_get (o : List Int) (i : Nat) : (o.map Int.toNat).getD i 0 = (o.getD i default).toNat := by
 rw [List.getD_eq_getElem?_getD, List.getElem?_map, List.getD_eq_getElem?_getD]
 cases o[i]? <;> rfl
theorem endS_st {k : Int} {l : List Hi.C} {o : List Int} : ∀ i, i ≤ o.length → endS l (ini k) ((o.map Int.toNat).take i) = stT k l o i
 | 0, _ => by rw [stT_0]; rfl
 | i + 1, h => by
  have hi : i < (o.map Int.toNat).length := by rw [List.length_map]; omega
  rw [take_getD 0 hi, endS_app, endS_st i (by omega), toN_get, stT_s]; rfl
theorem ver_0 {k : Int} {l : List Hi.C} {o : List Int} {fin : LP} (h : verM k l o fin = 0) : examE k l = 0 ∧ inR l.length o o.length ∧ allE l o l.length ∧ rtOk l o o.length ∧ resOk k l o o.length ∧ Sp.contM (stT k l o o.length) = fin := by
 unfold verM at h
 by_cases h1 : examE k l ≠ 0
 ·rw [if_pos h1] at h; exact absurd h h1
 ·rw [if_neg h1] at h
  by_cases h2 : ¬ inR l.length o o.length
  ·rw [if_pos h2] at h; cases h
  ·rw [if_neg h2] at h
   by_cases h3 : ¬ allE l o l.length
   ·rw [if_pos h3] at h; cases h
   ·rw [if_neg h3] at h
    by_cases h4 : ¬ rtOk l o o.length
    ·rw [if_pos h4] at h; cases h
    ·rw [if_neg h4] at h
     by_cases h5 : ¬ resOk k l o o.length
     ·rw [if_pos h5] at h; cases h
     ·rw [if_neg h5] at h
      by_cases h6 : ¬ Sp.contM (stT k l o o.length) = fin
      ·rw [if_pos h6] at h; cases h
      ·exact ⟨Classical.not_not.1 h1, Classical.not_not.1 h2, Classical.not_not.1 h3, Classical.not_not.1 h4, Classical.not_not.1 h5, Classical.not_not.1 h6⟩
theorem mem_toN {o : List Int} {a : Nat} {n : Nat} (hn : n ≤ o.length) (h0 : ∀ j, j < o.length → 0 ≤ o.getD j default) : a ∈ (o.map Int.toNat).take n ↔ ∃ j, j < n ∧ o.getD j default = (a : Int) := by
 constructor
 ·intro h
  obtain ⟨j, hj, rfl⟩ := List.mem_iff_getElem.1 h
  have h1 : j < n := by rw [List.length_take] at hj; omega
  have h2 : j < o.length := by omega
  refine ⟨j, h1, ?_⟩
  rw [List.getElem_take, List.getElem_map, Hi.getD_get o j default h2]
  have := h0 j h2
  rw [Hi.getD_get o j default h2] at this
  omega
 ·rintro ⟨j, hj, he⟩
  have h2 : j < o.length := by omega
  refine List.mem_iff_getElem.2 ⟨j, by rw [List.length_take, List.length_map]; omega, ?_⟩
  rw [List.getElem_take, List.getElem_map]
  rw [Hi.getD_get o j default h2] at he
  omega
theorem ver_good {k : Int} {l : List Hi.C} {o : List Int} {fin : LP} (h : verM k l o fin = 0) : good l (fun s => decide (Sp.contM s = fin)) (ini k) 0 (o.map Int.toNat) := by
 obtain ⟨h1, h2, h3, h4, h5, h6⟩ := ver_0 h
 have hnn : ∀ j, j < o.length → 0 ≤ o.getD j default := fun j hj => (h2 j hj).1.1
 refine ⟨path_idx _ _ _ fun i hi => ?_, ?_, ?_⟩
 ·rw [List.length_map] at hi
  have hi2 := h2 i hi
  rw [toN_get, endS_st i (by omega)]
  obtain ⟨n, hn⟩ := Int.eq_ofNat_of_zero_le hi2.1.1
  have hc : cO l o i = l.getD n default := by unfold cO; rw [hn]; rfl
  rw [hn, Int.toNat_natCast]
  refine ⟨by omega, skip_false.2 ⟨?_, fun a ha hu hb => ?_⟩, ?_⟩
  ·rw [endU_bit, Nat.zero_testBit, Bool.false_or, decide_eq_false_iff_not, mem_toN (by omega) hnn]
   rintro ⟨j, hj, he⟩
   exact hi2.2 j hj (by omega)
  ·rw [endU_bit, Nat.zero_testBit, Bool.false_or, decide_eq_true_iff, mem_toN (by omega) hnn] at hu
   obtain ⟨j, hj, he⟩ := hu
   have hr := h4 i hi
   have hg := bg_ge (l := l) (o := o) i j hj
   have hcj : cO l o j = l.getD a default := by unfold cO; rw [he]; rfl
   unfold rtB at hr
   rw [hc] at hr
   rw [hcj] at hg
   unfold Hi.befM at hb
   simp only [Int.toNat_natCast] at hb
   omega
  ·unfold stepB
   have := h5 i hi
   unfold resP at this
   rw [hc] at this
   exact decide_eq_true this
 ·rw [end_sub]
  intro a ha he
  rw [endU_bit, Nat.zero_testBit, Bool.false_or, decide_eq_true_iff]
  have := h3 a ha he
  have h7 := (mem_toN (o := o) (a := a) (Nat.le_refl _) hnn).2 (by
   obtain ⟨j, hj, e⟩ := List.mem_iff_getElem.1 this
   exact ⟨j, hj, by rw [Hi.getD_get o j default hj]; exact e⟩)
  rw [List.take_of_length_le (by rw [List.length_map]; exact Nat.le_refl _)] at h7
  exact h7
 ·have := endS_st (k := k) (l := l) (o := o) o.length (Nat.le_refl _)
  rw [List.take_of_length_le (by rw [List.length_map]; exact Nat.le_refl _)] at this
  rw [this]
  exact decide_eq_true h6
theorem check_cmp {k : Int} {l : List Hi.C} {fin : LP} (hk : Sp.newK k = k) (hl : l.length ≤ 10) (hro : ∀ i, i < l.length → RngO (opC (l.getD i default))) (h : (checkR k l fin).1 = false) : Dead l (fun s => decide (Sp.contM s = fin)) (ini k) 0 := by
 have e : checkR k l fin = runM l (fun s a => ((fun s => decide (Sp.contM s = fin)) s, (fun _ a => a) s a)) 11 (ini k) 0 ⟨[], [], 0, []⟩ := rfl
 rw [e] at h
 exact (run_cmp k l (fun s => decide (Sp.contM s = fin)) (fun _ a => a) (fun s i => val_nxt hro s i) 11 (ini k) 0 ⟨[], [], 0, []⟩ (val_ini hk) (by have := free_le 0 l.length; omega) h (fun s' u' _ _ hm => by cases hm)).1
theorem found {k : Int} {l : List Hi.C} {o : List Int} {fin : LP} (hl : l.length ≤ 10) (hro : ∀ i, i < l.length → RngO (opC (l.getD i default))) (h : verM k l o fin = 0) : (checkR k l fin).1 = true := by
 cases hc : (checkR k l fin).1 with
 | true => rfl
 | false => exact absurd (ver_good h) (check_cmp (exam_k (ver_0 h).1).1 hl hro hc _)
end Go.Proofs.YtpcjeaaplidmaaaDoor