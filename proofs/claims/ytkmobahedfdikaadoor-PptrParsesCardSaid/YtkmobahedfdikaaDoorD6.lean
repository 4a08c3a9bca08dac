/- Contracts of functions of this program, and the plain facts that they rest on. No conditions. -/
import Derived.Test.YtkmobahedfdikaaDoorD5
import Derived.Test.YtkmobahedfdikaaDoorShelfP2
import Derived.Lib.ItoaLen
set_option linter.unusedSimpArgs false
set_option linter.unusedVariables false
namespace Go.Proofs.YtkmobahedfdikaaDoor
open Go Go.Ab
attribute [local irreducible] callK callF loopQ vstep vskip pickE hideP
open Go.RowKit
set_option maxRecDepth 100000
/-- Bytes as a string. -/
abbrev bs (l : List UInt8) : ByteArray := ⟨l.toArray⟩
theorem bs_size (l : List UInt8) : (ByteArray.mk l.toArray).size = l.length := by simp [ByteArray.size]
theorem bs_list (l : List UInt8) : (ByteArray.mk l.toArray).data.toList = l := rfl
theorem bs_inj {a b : List UInt8} : (ByteArray.mk a.toArray = ByteArray.mk b.toArray) ↔ a = b := by
  constructor
  · intro h; have := congrArg (fun x => x.data.toList) h; simpa using this
  · rintro rfl; rfl
theorem toList_bs (l : List UInt8) : (ByteArray.mk l.toArray).toList = l := by rw [ByteArray.toList_eq]
theorem ext_bs (l : List UInt8) (a b : Nat) : (ByteArray.mk l.toArray).extract a b = ByteArray.mk ((l.drop a).take (b - a)).toArray := by
  apply ByteArray.ext
  apply Array.ext'
  simp [List.extract_eq_take_drop]
theorem app_bs (a b : List UInt8) : ByteArray.mk a.toArray ++ ByteArray.mk b.toArray = ByteArray.mk (a ++ b).toArray := by
  apply ByteArray.ext; simp
theorem beq_dec (a b : List UInt8) : (a == b) = decide (a = b) := by by_cases h : a = b <;> simp [h]
theorem byteAt_bs (l : List UInt8) (n : Nat) : byteAt ⟨l.toArray⟩ n = ((l.getD n 0).toNat : Int) := rfl
/-! Numerals. -/
def Dig (c : UInt8) : Prop := 48 ≤ c.toNat ∧ c.toNat ≤ 57
instance (c : UInt8) : Decidable (Dig c) := inferInstanceAs (Decidable (_ ∧ _))
def valA : Nat → List UInt8 → Nat
  | a, [] => a
  | a, c :: r => valA (a * 10 + (c.toNat - 48)) r
theorem getD_left {a b : List UInt8} {i : Nat} (h : i < a.length) : (a ++ b).getD i 0 = a.getD i 0 := by
  rw [List.getD_eq_getElem?_getD, List.getElem?_append_left h, ← List.getD_eq_getElem?_getD]
theorem getD_right {a b : List UInt8} {i : Nat} (h : a.length ≤ i) : (a ++ b).getD i 0 = b.getD (i - a.length) 0 := by
  rw [List.getD_eq_getElem?_getD, List.getElem?_append_right h, ← List.getD_eq_getElem?_getD]
theorem valA_app : ∀ (l r : List UInt8) (a : Nat), valA a (l ++ r) = valA (valA a l) r
  | [], _, _ => rfl
  | c :: l, r, a => valA_app l r _
theorem valA_ge : ∀ (l : List UInt8) (a : Nat), a ≤ valA a l
  | [], a => Nat.le_refl _
  | c :: l, a => Nat.le_trans (by omega) (valA_ge l (a * 10 + (c.toNat - 48)))
theorem parseM_inv {M : Nat} : ∀ (l : List UInt8) (a u : Nat), Lib.parseUintM M a l = .ok u → (∀ c, c ∈ l → Dig c) ∧ u = valA a l ∧ (l = [] ∨ u ≤ M)
  | [], a, u, h => by simp only [Lib.parseUintM, Lib.NumEnd.ok.injEq] at h; exact ⟨by simp, h.symm, .inl rfl⟩
  | c :: l, a, u, h => by
    rw [Lib.parseUintM] at h
    split at h
    · rename_i hd
      split at h
      · cases h
      · split at h
        · cases h
        · rename_i h2 h3
          obtain ⟨k1, k2, k3⟩ := parseM_inv l _ u h
          refine ⟨?_, k2, .inr ?_⟩
          · intro d hdm
            rcases List.mem_cons.1 hdm with rfl | hdm
            · exact hd
            · exact k1 d hdm
          · rcases k3 with k3 | k3
            · subst k3; rw [k2]; show a * 10 + (c.toNat - 48) ≤ M; omega
            · exact k3
    · cases h
theorem parseM_ok {M : Nat} (hM : M ≤ 18446744073709551615) : ∀ (l : List UInt8) (a : Nat), (∀ c, c ∈ l → Dig c) → valA a l ≤ M → Lib.parseUintM M a l = .ok (valA a l)
  | [], a, _, _ => rfl
  | c :: l, a, hd, hv => by
    have hc := hd c (by simp)
    have hge := valA_ge l (a * 10 + (c.toNat - 48))
    have hv' : valA (a * 10 + (c.toNat - 48)) l ≤ M := hv
    rw [Lib.parseUintM, if_pos (show 48 ≤ c.toNat ∧ c.toNat ≤ 57 from hc), if_neg (by omega), if_neg (by omega)]
    exact parseM_ok hM l _ (fun d hdm => hd d (List.mem_cons_of_mem _ hdm)) hv
theorem dec_step (u : Nat) (h : ¬ u < 10) : Lib.decDigits u = Lib.decDigits (u / 10) ++ [UInt8.ofNat (48 + u % 10)] := by rw [Lib.decDigits, dif_neg h]
theorem dec_one (u : Nat) (h : u < 10) : Lib.decDigits u = [UInt8.ofNat (48 + u)] := by rw [Lib.decDigits, dif_pos h]
theorem digU (d : Nat) (h : d < 10) : (UInt8.ofNat (48 + d)).toNat = 48 + d := by simp; omega
theorem dec_val (u : Nat) : valA 0 (Lib.decDigits u) = u ∧ (∀ c, c ∈ Lib.decDigits u → Dig c) := by
  induction u using Nat.strongRecOn with
  | _ u ih =>
    by_cases h : u < 10
    · rw [dec_one u h]
      refine ⟨?_, fun c hc => ?_⟩
      · show 0 * 10 + ((UInt8.ofNat (48 + u)).toNat - 48) = u; rw [digU u h]; omega
      · rw [List.mem_singleton.1 hc]
        unfold Dig; rw [digU u h]; omega
    · obtain ⟨i1, i2⟩ := ih (u / 10) (by omega)
      rw [dec_step u h]
      refine ⟨?_, fun c hc => ?_⟩
      · rw [valA_app, i1]
        show u / 10 * 10 + ((UInt8.ofNat (48 + u % 10)).toNat - 48) = u
        rw [digU _ (by omega)]; omega
      · rcases List.mem_append.1 hc with hc | hc
        · exact i2 c hc
        · rw [List.mem_singleton.1 hc]
          unfold Dig; rw [digU (u % 10) (by omega)]; omega
theorem dec_ne (u : Nat) : Lib.decDigits u ≠ [] := fun h => by have := congrArg List.length h; rw [Lib.decDigits_length] at this; have := Lib.nDigits_pos u; simp at *; omega
theorem dec_len (u : Nat) : 1 ≤ (Lib.decDigits u).length := by rw [Lib.decDigits_length]; exact Lib.nDigits_pos u
theorem dec_lead : ∀ u : Nat, 1 < (Lib.decDigits u).length → ¬ (Lib.decDigits u).getD 0 0 = 48 := by
  intro u
  induction u using Nat.strongRecOn with
  | _ u ih =>
    intro hl
    by_cases h : u < 10
    · rw [dec_one u h] at hl; simp at hl
    · rw [dec_step u h]
      have h1 := dec_len (u / 10)
      rw [getD_left (by omega)]
      by_cases h2 : 1 < (Lib.decDigits (u / 10)).length
      · exact ih (u / 10) (by omega) h2
      · by_cases h3 : u / 10 < 10
        · rw [dec_one _ h3]
          intro e
          have := congrArg UInt8.toNat e
          rw [List.getD_cons_zero, digU _ h3] at this
          have : 48 + u / 10 = 48 := this
          omega
        · rw [dec_step _ h3, List.length_append] at h2
          have := dec_len (u / 10 / 10)
          simp only [List.length_singleton] at h2; omega
theorem u8_ext {a b : UInt8} (h : a.toNat = b.toNat) : a = b := UInt8.toNat_inj.1 h
/-- A numeral without a leading zero is that of its value. -/
theorem canon : ∀ (n : Nat) (l : List UInt8), l.length = n + 1 → (∀ c, c ∈ l → Dig c) → (l.length = 1 ∨ ¬ l.getD 0 0 = 48) → l = Lib.decDigits (valA 0 l)
  | 0, l, hl, hd, _ => by
    match l, hl with
    | [c], _ =>
      have hc := hd c (by simp)
      have hv : valA 0 [c] = c.toNat - 48 := by show 0 * 10 + (c.toNat - 48) = _; omega
      unfold Dig at hc
      rw [hv, dec_one _ (by omega)]
      congr 1
      apply u8_ext; rw [digU _ (by omega)]; omega
  | n + 1, l, hl, hd, hz => by
    have hne : l ≠ [] := fun h => by rw [h] at hl; simp at hl
    obtain ⟨r, c, rfl⟩ : ∃ r c, l = r ++ [c] := ⟨l.dropLast, l.getLast hne, (List.dropLast_concat_getLast hne).symm⟩
    have hrl : r.length = n + 1 := by simpa using hl
    have hz' : ¬ (r ++ [c]).getD 0 0 = 48 := hz.resolve_left (by rw [hl]; omega)
    rw [getD_left (by omega)] at hz'
    have ih := canon n r hrl (fun d hdm => hd d (List.mem_append_left _ hdm)) (.inr hz')
    have hc := hd c (by simp)
    unfold Dig at hc
    have hv : valA 0 (r ++ [c]) = valA 0 r * 10 + (c.toNat - 48) := by rw [valA_app]; rfl
    have hpos : 1 ≤ valA 0 r := by
      rcases Nat.eq_zero_or_pos (valA 0 r) with h0 | h0
      · exfalso; rw [h0, dec_one 0 (by decide)] at ih; apply hz'; rw [ih]; rfl
      · exact h0
    rw [hv, dec_step _ (by omega), show (valA 0 r * 10 + (c.toNat - 48)) / 10 = valA 0 r by omega, ← ih]
    congr 2
    apply u8_ext; rw [digU _ (by omega)]; omega
/-- What number reads. -/
def numR (B : Nat) (l : List UInt8) : Option Nat := if 1 < l.length ∧ l.getD 0 0 = 48 then none else match Lib.parseUintB B l with | .ok u => some u | _ => none
theorem numR_inv {B : Nat} {l : List UInt8} {u : Nat} (h : numR B l = some u) : l = Lib.decDigits u ∧ u ≤ 2 ^ B - 1 := by
  unfold numR at h
  split at h
  · cases h
  · rename_i hz
    cases hp : Lib.parseUintB B l with
    | ok v =>
      rw [hp] at h
      obtain rfl : v = u := by simpa using h
      unfold Lib.parseUintB at hp
      split at hp
      · cases hp
      · rename_i hne
        obtain ⟨k1, k2, k3⟩ := parseM_inv l 0 v hp
        have h1 : 1 ≤ l.length := by cases l with | nil => exact absurd rfl hne | cons _ _ => simp
        refine ⟨?_, k3.resolve_left hne⟩
        rw [k2]
        exact canon (l.length - 1) l (by omega) k1 (by
          rcases Nat.lt_or_ge 1 l.length with h2 | h2
          · exact .inr fun h3 => hz ⟨h2, h3⟩
          · exact .inl (by omega))
    | _ => rw [hp] at h; cases h
theorem numR_ok {B : Nat} (hB : B ≤ 64) {u : Nat} (h : u ≤ 2 ^ B - 1) : numR B (Lib.decDigits u) = some u := by
  have hM : 2 ^ B - 1 ≤ 18446744073709551615 := by
    have := Nat.pow_le_pow_right (show 0 < 2 by decide) hB
    have h4 : (2 : Nat) ^ 64 = 18446744073709551616 := by decide
    omega
  obtain ⟨h1, h2⟩ := dec_val u
  have hp : Lib.parseUintB B (Lib.decDigits u) = .ok u := by
    unfold Lib.parseUintB
    rw [if_neg (dec_ne u), parseM_ok hM _ _ h2 (by rw [h1]; exact h), h1]
  unfold numR
  rw [if_neg (fun hh => dec_lead u hh.1 hh.2), hp]
/-- How many digits stand ahead, of at most n. -/
def pre : Nat → List UInt8 → Nat
  | 0, _ => 0
  | _, [] => 0
  | n + 1, c :: r => if Dig c then pre n r + 1 else 0
theorem pre_le : ∀ (n : Nat) (l : List UInt8), pre n l ≤ n ∧ pre n l ≤ l.length
  | 0, _ => ⟨Nat.le_refl _, Nat.zero_le _⟩
  | _ + 1, [] => ⟨Nat.zero_le _, Nat.le_refl _⟩
  | n + 1, c :: r => by
    have := pre_le n r
    rw [pre]; split
    · simp only [List.length_cons]; omega
    · exact ⟨Nat.zero_le _, Nat.zero_le _⟩
theorem pre_take : ∀ (n : Nat) (l : List UInt8), ∀ c, c ∈ l.take (pre n l) → Dig c
  | 0, _, c, h => by simp [pre] at h
  | _ + 1, [], c, h => by simp at h
  | n + 1, x :: r, c, h => by
    rw [pre] at h
    split at h
    · rename_i hx
      rw [List.take_succ_cons] at h
      rcases List.mem_cons.1 h with rfl | h
      · exact hx
      · exact pre_take n r c h
    · simp at h
theorem pre_is : ∀ (n : Nat) (l : List UInt8) (i : Nat), (∀ j, j < i → Dig (l.getD j 0)) → i ≤ n → i ≤ l.length → (i = n ∨ i = l.length ∨ ¬ Dig (l.getD i 0)) → pre n l = i := by
  intro n
  induction n with
  | zero => intro l i _ h1 _ _; obtain rfl : i = 0 := by omega
            rfl
  | succ n ih =>
    intro l i hd h1 h2 h3
    cases l with
    | nil => obtain rfl : i = 0 := by simpa using h2
             rfl
    | cons c r =>
      rw [pre]
      cases i with
      | zero =>
        rcases h3 with h3 | h3 | h3
        · omega
        · simp at h3
        · rw [if_neg (show ¬ Dig c from h3)]
      | succ i =>
        have hc : Dig c := hd 0 (by omega)
        rw [if_pos hc, ih r i (fun j hj => hd (j + 1) (by omega)) (by omega) (by simpa using h2) (by
          rcases h3 with h3 | h3 | h3
          · exact .inl (by omega)
          · exact .inr (.inl (by simpa using h3))
          · exact .inr (.inr h3))]
theorem pre_app {n : Nat} {d r : List UInt8} (hd : ∀ c, c ∈ d → Dig c) (hl : d.length ≤ n) (hr : r = [] ∨ ¬ Dig (r.getD 0 0)) : pre n (d ++ r) = d.length := by
  refine pre_is n _ _ (fun j hj => ?_) hl (by simp) ?_
  · rw [getD_left hj, List.getD_eq_getElem?_getD, List.getElem?_eq_getElem hj]
    exact hd _ (List.getElem_mem hj)
  · rcases hr with rfl | hr
    · exact .inr (.inl (by simp))
    · refine .inr (.inr ?_)
      rw [getD_right (Nat.le_refl _), Nat.sub_self]; exact hr
theorem dec_11 {u : Nat} (h : u < 100000000000) : (Lib.decDigits u).length ≤ 11 := by
  rw [Lib.decDigits_length]
  have key : ∀ k u : Nat, u < 10 ^ (k + 1) → Lib.nDigits u ≤ k + 1 := by
    intro k
    induction k with
    | zero => intro u h; rw [Lib.nDigits_small (by simpa using h)]; exact Nat.le_refl _
    | succ k ih =>
      intro u h
      by_cases h2 : u < 10
      · rw [Lib.nDigits_small h2]; omega
      · rw [Lib.nDigits_big h2]
        have := ih (u / 10) (by rw [Nat.pow_succ] at h; omega)
        omega
  exact key 10 u (by simpa using h)
theorem val_lt : ∀ (l : List UInt8) (a : Nat), (∀ c, c ∈ l → Dig c) → valA a l < (a + 1) * 10 ^ l.length
  | [], a, _ => by show a < (a + 1) * 1; omega
  | c :: l, a, hd => by
    have hc := hd c (by simp)
    unfold Dig at hc
    have ih := val_lt l (a * 10 + (c.toNat - 48)) fun d h => hd d (List.mem_cons_of_mem _ h)
    have h1 : (a * 10 + (c.toNat - 48) + 1) * 10 ^ l.length ≤ ((a + 1) * 10) * 10 ^ l.length := Nat.mul_le_mul_right _ (by omega)
    rw [List.length_cons, Nat.pow_succ, Nat.mul_comm (10 ^ l.length) 10, ← Nat.mul_assoc]
    show valA (a * 10 + (c.toNat - 48)) l < _
    omega
end Go.Proofs.YtkmobahedfdikaaDoor
