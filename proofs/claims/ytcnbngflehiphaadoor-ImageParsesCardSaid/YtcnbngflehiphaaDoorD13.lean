/- Contracts of functions of this program, and the plain facts that they rest on. No conditions. -/
import Derived.Test.YtcnbngflehiphaaDoorD8
import Derived.Test.YtcnbngflehiphaaDoorD9
set_option linter.unusedSimpArgs false
set_option linter.unusedVariables false
namespace Go.Proofs.YtcnbngflehiphaaDoor
open Go Go.Ab
attribute [local irreducible] callK callF loopQ vstep vskip pickE hideP
open Go.RowKit
attribute [local go_sem] eI
set_option maxRecDepth 100000
def Dig (c : UInt8) : Prop := 48 ≤ c.toNat ∧ c.toNat ≤ 57
instance (c : UInt8) : Decidable (Dig c) := inferInstanceAs (Decidable (_ ∧ _))
def valA : Nat → List UInt8 → Nat
  | a, [] => a
  | a, c :: r => valA (a * 10 + (c.toNat - 48)) r
theorem getD_left {a b : List UInt8} {i : Nat} (h : i < a.length) : (a ++ b).getD i 0 = a.getD i 0 := by
  rw [List.getD_eq_getElem?_getD, List.getElem?_append_left h, ← List.getD_eq_getElem?_getD]
theorem getD_right {a b : List UInt8} {i : Nat} (h : a.length ≤ i) : (a ++ b).getD i 0 = b.getD (i - a.length) 0 := by
  rw [List.getD_eq_getElem?_getD, List.getElem?_append_right h, ← List.getD_eq_getElem?_getD]
theorem valA_app : ∀ (l r : List UInt8) (a : Nat), valA a (l ++ r) = valA (valA a l) r
  | [], _, _ => rfl
  | c :: l, r, a => valA_app l r _
theorem valA_ge : ∀ (l : List UInt8) (a : Nat), a ≤ valA a l
  | [], a => Nat.le_refl _
  | c :: l, a => Nat.le_trans (by omega) (valA_ge l (a * 10 + (c.toNat - 48)))
theorem dec_step (u : Nat) (h : ¬ u < 10) : Lib.decDigits u = Lib.decDigits (u / 10) ++ [UInt8.ofNat (48 + u % 10)] := by rw [Lib.decDigits, dif_neg h]
theorem dec_one (u : Nat) (h : u < 10) : Lib.decDigits u = [UInt8.ofNat (48 + u)] := by rw [Lib.decDigits, dif_pos h]
theorem digU (d : Nat) (h : d < 10) : (UInt8.ofNat (48 + d)).toNat = 48 + d := by simp; omega
theorem dec_val (u : Nat) : valA 0 (Lib.decDigits u) = u ∧ (∀ c, c ∈ Lib.decDigits u → Dig c) := by
  induction u using Nat.strongRecOn with
  | _ u ih =>
    by_cases h : u < 10
    · rw [dec_one u h]
      refine ⟨?_, fun c hc => ?_⟩
      · show 0 * 10 + ((UInt8.ofNat (48 + u)).toNat - 48) = u; rw [digU u h]; omega
      · rw [List.mem_singleton.1 hc]
        unfold Dig; rw [digU u h]; omega
    · obtain ⟨i1, i2⟩ := ih (u / 10) (by omega)
      rw [dec_step u h]
      refine ⟨?_, fun c hc => ?_⟩
      · rw [valA_app, i1]
        show u / 10 * 10 + ((UInt8.ofNat (48 + u % 10)).toNat - 48) = u
        rw [digU _ (by omega)]; omega
      · rcases List.mem_append.1 hc with hc | hc
        · exact i2 c hc
        · rw [List.mem_singleton.1 hc]
          unfold Dig; rw [digU (u % 10) (by omega)]; omega
theorem dec_ne (u : Nat) : Lib.decDigits u ≠ [] := fun h => by have := congrArg List.length h; rw [Lib.decDigits_length] at this; have := Lib.nDigits_pos u; simp at *; omega
theorem dec_len (u : Nat) : 1 ≤ (Lib.decDigits u).length := by rw [Lib.decDigits_length]; exact Lib.nDigits_pos u
theorem dec_lead : ∀ u : Nat, 1 < (Lib.decDigits u).length → ¬ (Lib.decDigits u).getD 0 0 = 48 := by
  intro u
  induction u using Nat.strongRecOn with
  | _ u ih =>
    intro hl
    by_cases h : u < 10
    · rw [dec_one u h] at hl; simp at hl
    · rw [dec_step u h]
      have h1 := dec_len (u / 10)
      rw [getD_left (by omega)]
      by_cases h2 : 1 < (Lib.decDigits (u / 10)).length
      · exact ih (u / 10) (by omega) h2
      · by_cases h3 : u / 10 < 10
        · rw [dec_one _ h3]
          intro e
          have := congrArg UInt8.toNat e
          rw [List.getD_cons_zero, digU _ h3] at this
          have : 48 + u / 10 = 48 := this
          omega
        · rw [dec_step _ h3, List.length_append] at h2
          have := dec_len (u / 10 / 10)
          simp only [List.length_singleton] at h2; omega
theorem u8_ext {a b : UInt8} (h : a.toNat = b.toNat) : a = b := UInt8.toNat_inj.1 h
/-- A numeral without a leading zero is that of its value. -/
theorem canon : ∀ (n : Nat) (l : List UInt8), l.length = n + 1 → (∀ c, c ∈ l → Dig c) → (l.length = 1 ∨ ¬ l.getD 0 0 = 48) → l = Lib.decDigits (valA 0 l)
  | 0, l, hl, hd, _ => by
    match l, hl with
    | [c], _ =>
      have hc := hd c (by simp)
      have hv : valA 0 [c] = c.toNat - 48 := by show 0 * 10 + (c.toNat - 48) = _; omega
      unfold Dig at hc
      rw [hv, dec_one _ (by omega)]
      congr 1
      apply u8_ext; rw [digU _ (by omega)]; omega
  | n + 1, l, hl, hd, hz => by
    have hne : l ≠ [] := fun h => by rw [h] at hl; simp at hl
    obtain ⟨r, c, rfl⟩ : ∃ r c, l = r ++ [c] := ⟨l.dropLast, l.getLast hne, (List.dropLast_concat_getLast hne).symm⟩
    have hrl : r.length = n + 1 := by simpa using hl
    have hz' : ¬ (r ++ [c]).getD 0 0 = 48 := hz.resolve_left (by rw [hl]; omega)
    rw [getD_left (by omega)] at hz'
    have ih := canon n r hrl (fun d hdm => hd d (List.mem_append_left _ hdm)) (.inr hz')
    have hc := hd c (by simp)
    unfold Dig at hc
    have hv : valA 0 (r ++ [c]) = valA 0 r * 10 + (c.toNat - 48) := by rw [valA_app]; rfl
    have hpos : 1 ≤ valA 0 r := by
      rcases Nat.eq_zero_or_pos (valA 0 r) with h0 | h0
      · exfalso; rw [h0, dec_one 0 (by decide)] at ih; apply hz'; rw [ih]; rfl
      · exact h0
    rw [hv, dec_step _ (by omega), show (valA 0 r * 10 + (c.toNat - 48)) / 10 = valA 0 r by omega, ← ih]
    congr 2
    apply u8_ext; rw [digU _ (by omega)]; omega
/-- How many digits stand ahead, of at most n. -/
def pre : Nat → List UInt8 → Nat
  | 0, _ => 0
  | _, [] => 0
  | n + 1, c :: r => if Dig c then pre n r + 1 else 0
theorem pre_le : ∀ (n : Nat) (l : List UInt8), pre n l ≤ n ∧ pre n l ≤ l.length
  | 0, _ => ⟨Nat.le_refl _, Nat.zero_le _⟩
  | _ + 1, [] => ⟨Nat.zero_le _, Nat.le_refl _⟩
  | n + 1, c :: r => by
    have := pre_le n r
    rw [pre]; split
    · simp only [List.length_cons]; omega
    · exact ⟨Nat.zero_le _, Nat.zero_le _⟩
theorem pre_take : ∀ (n : Nat) (l : List UInt8), ∀ c, c ∈ l.take (pre n l) → Dig c
  | 0, _, c, h => by simp [pre] at h
  | _ + 1, [], c, h => by simp at h
  | n + 1, x :: r, c, h => by
    rw [pre] at h
    split at h
    · rename_i hx
      rw [List.take_succ_cons] at h
      rcases List.mem_cons.1 h with rfl | h
      · exact hx
      · exact pre_take n r c h
    · simp at h
theorem pre_is : ∀ (n : Nat) (l : List UInt8) (i : Nat), (∀ j, j < i → Dig (l.getD j 0)) → i ≤ n → i ≤ l.length → (i = n ∨ i = l.length ∨ ¬ Dig (l.getD i 0)) → pre n l = i := by
  intro n
  induction n with
  | zero => intro l i _ h1 _ _; obtain rfl : i = 0 := by omega
            rfl
  | succ n ih =>
    intro l i hd h1 h2 h3
    cases l with
    | nil => obtain rfl : i = 0 := by simpa using h2
             rfl
    | cons c r =>
      rw [pre]
      cases i with
      | zero =>
        rcases h3 with h3 | h3 | h3
        · omega
        · simp at h3
        · rw [if_neg (show ¬ Dig c from h3)]
      | succ i =>
        have hc : Dig c := hd 0 (by omega)
        rw [if_pos hc, ih r i (fun j hj => hd (j + 1) (by omega)) (by omega) (by simpa using h2) (by
          rcases h3 with h3 | h3 | h3
          · exact .inl (by omega)
          · exact .inr (.inl (by simpa using h3))
          · exact .inr (.inr h3))]
theorem pre_app {n : Nat} {d r : List UInt8} (hd : ∀ c, c ∈ d → Dig c) (hl : d.length ≤ n) (hr : r = [] ∨ ¬ Dig (r.getD 0 0)) : pre n (d ++ r) = d.length := by
  refine pre_is n _ _ (fun j hj => ?_) hl (by simp) ?_
  · rw [getD_left hj, List.getD_eq_getElem?_getD, List.getElem?_eq_getElem hj]
    exact hd _ (List.getElem_mem hj)
  · rcases hr with rfl | hr
    · exact .inr (.inl (by simp))
    · refine .inr (.inr ?_)
      rw [getD_right (Nat.le_refl _), Nat.sub_self]; exact hr
theorem val_lt : ∀ (l : List UInt8) (a : Nat), (∀ c, c ∈ l → Dig c) → valA a l < (a + 1) * 10 ^ l.length
  | [], a, _ => by show a < (a + 1) * 1; omega
  | c :: l, a, hd => by
    have hc := hd c (by simp)
    unfold Dig at hc
    have ih := val_lt l (a * 10 + (c.toNat - 48)) fun d h => hd d (List.mem_cons_of_mem _ h)
    have h1 : (a * 10 + (c.toNat - 48) + 1) * 10 ^ l.length ≤ ((a + 1) * 10) * 10 ^ l.length := Nat.mul_le_mul_right _ (by omega)
    rw [List.length_cons, Nat.pow_succ, Nat.mul_comm (10 ^ l.length) 10, ← Nat.mul_assoc]
    show valA (a * 10 + (c.toNat - 48)) l < _
    omega
theorem take_val {l : List UInt8} {i : Nat} (h : i < l.length) : valA 0 (l.take (i + 1)) = valA 0 (l.take i) * 10 + ((l.getD i 0).toNat - 48) := by
  rw [List.take_add_one, List.getD_eq_getElem?_getD, List.getElem?_eq_getElem h]
  show valA 0 (l.take i ++ [l[i]]) = _
  rw [valA_app]; rfl
theorem take_dig {l : List UInt8} {i : Nat} (h : ∀ j, j < i → Dig (l.getD j 0)) : ∀ c, c ∈ l.take i → Dig c := by
  intro c hc
  obtain ⟨j, hj, rfl⟩ := List.mem_iff_getElem.1 hc
  have h1 : j < i := by rw [List.length_take] at hj; omega
  have h2 : j < l.length := by rw [List.length_take] at hj; omega
  have := h j h1
  rw [List.getD_eq_getElem?_getD, List.getElem?_eq_getElem h2] at this
  rw [List.getElem_take]; exact this
theorem digI {c : UInt8} (h1 : 48 ≤ (c.toNat : Int)) (h2 : (c.toNat : Int) ≤ 57) : Dig c := ⟨by omega, by omega⟩
theorem ext_dig {l : List UInt8} {i : Nat} (h : ∀ j, j < i → Dig (l.getD j 0)) (hi : Dig (l.getD i 0)) : ∀ j, j < i + 1 → Dig (l.getD j 0) := fun j hj => by
  rcases Nat.lt_or_ge j i with h1 | h1
  · exact h j h1
  · obtain rfl : j = i := by omega
    exact hi
/-! Cut. -/
theorem idx_hit (x : UInt8) : ∀ (a b : List UInt8), x ∉ a → Lib.index (a ++ x :: b) [x] = a.length
  | [], b, _ => by simp [Lib.index, List.isPrefixOf]
  | y :: a, b, h => by
    have h1 : x ≠ y := fun e => h (by simp [e])
    have h2 := idx_hit x a b (fun hm => h (List.mem_cons_of_mem _ hm))
    show Lib.index (y :: (a ++ x :: b)) [x] = _
    rw [Lib.index, if_neg (by simp [List.isPrefixOf, h1]), h2, if_neg (by simp <;> omega)]
    simp
theorem idx_miss (x : UInt8) : ∀ s : List UInt8, x ∉ s → Lib.index s [x] = -1
  | [], _ => by simp [Lib.index]
  | y :: s, h => by
    have h1 : x ≠ y := fun e => h (by simp [e])
    have h2 := idx_miss x s (fun hm => h (List.mem_cons_of_mem _ hm))
    rw [Lib.index, if_neg (by simp [List.isPrefixOf, h1]), h2, if_pos (by decide)]
theorem cut_hit (x : UInt8) (a b : List UInt8) (h : x ∉ a) : Lib.cut (a ++ x :: b) [x] = (a, b, true) := by
  unfold Lib.cut
  rw [idx_hit x a b h, if_pos (by omega)]
  simp
theorem cut_miss (x : UInt8) (s : List UInt8) (h : x ∉ s) : Lib.cut s [x] = (s, [], false) := by
  unfold Lib.cut
  rw [idx_miss x s h, if_neg (by decide)]
theorem cut_call (s : List UInt8) (x : UInt8) (hl : s.length ≤ 100000000) {a b : List UInt8} {c : Bool} (hc : Lib.cut s [x] = (a, b, c)) : PCalls Tryd.prog 63 [.v (.string (bs s)), .v (.string ⟨#[x]⟩)] (.tup [.v (.string (bs a)), .v (.string (bs b)), .v (.bool c)]) := by
  refine pcalls_val ⟨_, rfl, rfl, by decide⟩ (u := .tuple #[.string (bs a), .string (bs b), .bool c]) (fun Z w => by simp only [Rep, Reps]; exact ⟨_, ⟨_, _, rfl, ⟨rfl, rfl⟩, _, _, rfl, ⟨rfl, rfl⟩, _, _, rfl, ⟨rfl, rfl⟩, rfl⟩, rfl⟩) fun Z w vals hz hv => ?_
  have e : vals = [.string (bs s), .string ⟨#[x]⟩] := by
    simp only [Reps, Rep] at hv
    obtain ⟨_, _, rfl, ⟨rfl, _⟩, _, _, rfl, ⟨rfl, _⟩, rfl⟩ := hv
    rfl
  subst e
  obtain ⟨m, hm⟩ : ∃ m : Int, w.cell? ⟨1, 0, none⟩ = some (.int .i64 m) := by first | exact hz.gl.2.2.1 | exact hz.gl.2.2
  have := Tryd.strings_Cut (bs s) ⟨#[x]⟩ m w (by rw [bs_size]; omega) hm
  rw [show (bs s).data.toList = s from rfl, show (ByteArray.mk #[x]).data.toList = [x] from rfl, hc] at this
  exact this.mono fun e w' ⟨he, n, hw⟩ => ⟨he, by rw [hw]; exact ⟨rfl, rfl, rfl, by simp, fun k hk => by simp⟩⟩
end Go.Proofs.YtcnbngflehiphaaDoor
