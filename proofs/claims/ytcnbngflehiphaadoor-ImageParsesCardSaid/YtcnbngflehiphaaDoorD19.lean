/- Contracts of functions of this program, and the plain facts that they rest on. No conditions. -/
import Derived.Test.YtcnbngflehiphaaDoorD16
set_option linter.unusedSimpArgs false
set_option linter.unusedVariables false
namespace Go.Proofs.YtcnbngflehiphaaDoor
open Go Go.Ab
attribute [local irreducible] callK callF loopQ vstep vskip pickE hideP
open Go.RowKit
set_option maxRecDepth 100000
/-! Hexadecimal words, there and back. -/
theorem dig_back : ∀ n, n < 16 → hxd (digL.getD n 0) = n ∧ isHx (digL.getD n 0) = true := by decide +kernel
theorem dig_there : ∀ n, n < 256 → isHx (UInt8.ofNat n) = true → digL.getD (hxd (UInt8.ofNat n)) 0 = UInt8.ofNat n := by decide +kernel
theorem dig_there' (c : UInt8) (h : isHx c = true) : digL.getD (hxd c) 0 = c := by
  have := dig_there c.toNat (UInt8.toNat_lt c)
  rw [UInt8.ofNat_toNat] at this; exact this h
theorem hxA_shift : ∀ (r : List UInt8) (a : Nat), hxA a r = a * 16 ^ r.length + hxA 0 r
  | [], a => by show a = a * 1 + 0; omega
  | c :: r, a => by
    show hxA (a * 16 + hxd c) r = a * 16 ^ (r.length + 1) + hxA (0 * 16 + hxd c) r
    rw [hxA_shift r (a * 16 + hxd c), hxA_shift r (0 * 16 + hxd c), Nat.zero_mul, Nat.zero_add, Nat.add_mul, Nat.pow_succ, Nat.mul_assoc, Nat.mul_comm 16, Nat.add_assoc]
theorem hexM_isHx (w : Nat) : ∀ j c, c ∈ hexM w j → isHx c = true
  | 0, c, h => by cases h
  | j + 1, c, h => by
    rw [hexM] at h
    rcases List.mem_append.1 h with h | h
    · exact hexM_isHx w j c h
    · rw [List.mem_singleton.1 h]
      exact (dig_back _ (Nat.mod_lt _ (by decide))).2
theorem hxA_hexM (w : Nat) (hw : w < 18446744073709551616) : ∀ j, j ≤ 16 → hxA 0 (hexM w j) = w / 2 ^ (64 - 4 * j)
  | 0, _ => by show 0 = w / 2 ^ 64; rw [Nat.div_eq_of_lt]; exact hw
  | j + 1, h => by
    rw [hexM, hxA_app, hxA_hexM w hw j (by omega)]
    show w / 2 ^ (64 - 4 * j) * 16 + hxd (digL.getD (w / 2 ^ (60 - 4 * j) % 16) 0) = _
    rw [(dig_back _ (Nat.mod_lt _ (by decide))).1, show 64 - 4 * (j + 1) = 60 - 4 * j by omega, show 64 - 4 * j = (60 - 4 * j) + 4 by omega, Nat.pow_add, ← Nat.div_div_eq_div_mul]
    show w / 2 ^ (60 - 4 * j) / 16 * 16 + _ = _
    omega
theorem hxV_hexM {w : Nat} (hw : w < 18446744073709551616) : hxOk (hexM w 16) = true ∧ hxV (hexM w 16) = w := by
  have h1 : hxOk (hexM w 16) = true := by
    unfold hxOk; rw [Bool.and_eq_true, decide_eq_true_iff, List.all_eq_true]; exact ⟨hexM_len w 16, hexM_isHx w 16⟩
  refine ⟨h1, ?_⟩
  rw [hxV, if_pos h1, hxA_hexM w hw 16 (Nat.le_refl _)]
  show w / 1 = w
  rw [Nat.div_one]
theorem hx_pow (l : List UInt8) (h : hxOk l = true) : hxA 0 l < 18446744073709551616 ∧ l.length = 16 ∧ (∀ c, c ∈ l → isHx c = true) := by
  unfold hxOk at h; rw [Bool.and_eq_true, decide_eq_true_iff, List.all_eq_true] at h
  have := hxA_lt l 0 h.2
  rw [h.1] at this
  exact ⟨by simpa using this, h⟩
theorem hexM_back {l : List UInt8} (h : hxOk l = true) : hexM (hxV l) 16 = l := by
  obtain ⟨h1, h2, h3⟩ := hx_pow l h
  have key : ∀ j, j ≤ 16 → hexM (hxA 0 l) j = l.take j := by
    intro j
    induction j with
    | zero => intro _; rfl
    | succ j ih =>
      intro hj
      have hlt : j < l.length := by omega
      rw [hexM, ih (by omega), List.take_succ_eq_append_getElem hlt]
      congr 2
      have e1 : hxA 0 l = hxA 0 (l.take (j + 1)) * 16 ^ (l.drop (j + 1)).length + hxA 0 (l.drop (j + 1)) := by
        rw [← hxA_shift, ← hxA_app, List.take_append_drop]
      have e2 := hxA_lt (l.drop (j + 1)) 0 (fun c hc => h3 c (List.mem_of_mem_drop hc))
      have e3 : (l.drop (j + 1)).length = 15 - j := by rw [List.length_drop]; omega
      rw [e3] at e1 e2
      have e4 : (2 : Nat) ^ (60 - 4 * j) = 16 ^ (15 - j) := by
        rw [show (16 : Nat) = 2 ^ 4 from rfl, ← Nat.pow_mul]; congr 1; omega
      have e5 : hxA 0 l / 2 ^ (60 - 4 * j) = hxA 0 (l.take (j + 1)) := by
        rw [e4, e1, Nat.mul_comm, Nat.mul_add_div (Nat.pow_pos (by decide)), Nat.div_eq_of_lt (by omega), Nat.add_zero]
      have e6 := take_hx hlt
      have e7 : l.getD j 0 = l[j] := by rw [List.getD_eq_getElem?_getD, List.getElem?_eq_getElem hlt]; rfl
      have hd := hxd_lt l[j] (h3 _ (List.getElem_mem hlt))
      unfold hexDig
      rw [e5, e6, e7, show (hxA 0 (l.take j) * 16 + hxd l[j]) % 16 = hxd l[j] by omega]
      exact dig_there' _ (h3 _ (List.getElem_mem hlt))
  rw [hxV, if_pos h, key 16 (Nat.le_refl _), List.take_of_length_le (by omega)]
theorem hxV_lt (l : List UInt8) : hxV l < 18446744073709551616 := by
  unfold hxV; split
  · rename_i h; exact (hx_pow l h).1
  · decide
end Go.Proofs.YtcnbngflehiphaaDoor
