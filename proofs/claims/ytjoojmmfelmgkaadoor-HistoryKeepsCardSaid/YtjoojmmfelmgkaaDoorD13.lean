/- Contracts of functions of this program, and the plain facts that they rest on. No conditions. -/
import Derived.Test.YtjoojmmfelmgkaaDoorD11
import Derived.Test.YtjoojmmfelmgkaaDoorShelfP2
import Derived.Lib.AtoiErrMem
set_option linter.unusedSimpArgs false
set_option linter.unusedVariables false
namespace Go.Proofs.YtjoojmmfelmgkaaDoor
open Go Go.Ab
attribute [local irreducible] callK callF loopQ vstep vskip pickE hideP
open Go.RowKit
set_option maxRecDepth 100000
theorem idx_hit (x : UInt8) : ∀ (a b : List UInt8), x ∉ a → Lib.index (a ++ x :: b) [x] = a.length
  | [], b, _ => by simp [Lib.index, List.isPrefixOf]
  | y :: a, b, h => by
    have h1 : x ≠ y := fun e => h (by simp [e])
    have h2 := idx_hit x a b (fun hm => h (List.mem_cons_of_mem _ hm))
    show Lib.index (y :: (a ++ x :: b)) [x] = _
    rw [Lib.index, if_neg (by simp [List.isPrefixOf, h1]), h2, if_neg (by simp <;> omega)]
    simp
theorem idx_miss (x : UInt8) : ∀ s : List UInt8, x ∉ s → Lib.index s [x] = -1
  | [], _ => by simp [Lib.index]
  | y :: s, h => by
    have h1 : x ≠ y := fun e => h (by simp [e])
    have h2 := idx_miss x s (fun hm => h (List.mem_cons_of_mem _ hm))
    rw [Lib.index, if_neg (by simp [List.isPrefixOf, h1]), h2, if_pos (by decide)]
theorem cut_hit (x : UInt8) (a b : List UInt8) (h : x ∉ a) : Lib.cut (a ++ x :: b) [x] = (a, b, true) := by
  unfold Lib.cut
  rw [idx_hit x a b h, if_pos (by omega)]
  simp
def joinL (x : UInt8) : List (List UInt8) → List UInt8
  | [] => []
  | [w] => w
  | w :: v :: ws => w ++ x :: joinL x (v :: ws)
theorem count_join (x : UInt8) : ∀ (ws : List (List UInt8)) (fuel : Nat), ws ≠ [] → (∀ w, w ∈ ws → x ∉ w) → (joinL x ws).length < fuel → Lib.countFrom [x] fuel (joinL x ws) = ws.length - 1
  | [], _, h, _, _ => absurd rfl h
  | [w], fuel + 1, _, h, _ => by
    rw [joinL, Lib.countFrom, idx_miss x w (h w (by simp)), if_pos (by decide)]; rfl
  | w :: v :: ws, fuel + 1, _, h, hf => by
    have ih := count_join x (v :: ws) fuel (by simp) (fun u hu => h u (List.mem_cons_of_mem _ hu)) (by simp only [joinL, List.length_append, List.length_cons] at hf ⊢; omega)
    rw [joinL, Lib.countFrom, idx_hit x w _ (h w (by simp)), if_neg (by simp <;> omega)]
    rw [show (w ++ x :: joinL x (v :: ws)).drop (((w.length : Int)).toNat + [x].length) = joinL x (v :: ws) by simp, ih]
    simp; omega
theorem split_join (x : UInt8) : ∀ (ws : List (List UInt8)), ws ≠ [] → (∀ w, w ∈ ws → x ∉ w) → Lib.splitK [x] 0 (ws.length - 1) (joinL x ws) = ws
  | [], h, _ => absurd rfl h
  | [w], _, _ => rfl
  | w :: v :: ws, _, h => by
    have ih := split_join x (v :: ws) (by simp) (fun u hu => h u (List.mem_cons_of_mem _ hu))
    show Lib.splitK [x] 0 ((ws.length + 1) + 1 - 1) _ = _
    rw [joinL, Nat.add_sub_cancel, Lib.splitK, idx_hit x w _ (h w (by simp)), if_neg (by simp <;> omega)]
    rw [show (w ++ x :: joinL x (v :: ws)).drop (((w.length : Int)).toNat + [x].length) = joinL x (v :: ws) by simp]
    rw [show (v :: ws).length - 1 = ws.length from rfl] at ih
    rw [ih]; simp
theorem splitB_join (x : UInt8) (ws : List (List UInt8)) (hne : ws ≠ []) (h : ∀ w, w ∈ ws → x ∉ w) : Lib.countB (bs (joinL x ws)) ⟨#[x]⟩ + 1 = ws.length ∧ Lib.splitB ⟨#[x]⟩ 0 (Lib.countB (bs (joinL x ws)) ⟨#[x]⟩) (bs (joinL x ws)) = ws.map bs := by
  have hc : Lib.countB (bs (joinL x ws)) ⟨#[x]⟩ = ws.length - 1 := count_join x ws _ hne h (Nat.lt_succ_self _)
  have hl : ws.length ≠ 0 := by simpa using hne
  rw [hc]
  refine ⟨by omega, ?_⟩
  have h1 := Lib.splitB_data ⟨#[x]⟩ 0 (ws.length - 1) (bs (joinL x ws))
  rw [show (ByteArray.mk #[x]).data.toList = [x] from rfl, show (bs (joinL x ws)).data.toList = joinL x ws from rfl, split_join x ws hne h] at h1
  have h2 := congrArg (List.map bs) h1
  rw [List.map_map] at h2
  rw [← h2]
  conv => lhs; rw [← List.map_id (Lib.splitB ⟨#[x]⟩ 0 (ws.length - 1) (bs (joinL x ws)))]
  refine List.map_congr_left fun b _ => ?_
  show b = ⟨b.data.toList.toArray⟩
  simp
theorem parse_dec {M : Nat} (hM : M ≤ 18446744073709551615) (u : Nat) : ∀ r, u ≤ M → Lib.parseUintM M 0 (Lib.decDigits u ++ r) = Lib.parseUintM M u r := by
  induction u using Nat.strongRecOn with
  | _ u ih =>
    intro r hu
    by_cases h : u < 10
    · rw [Lib.decDigits, dif_pos h, List.singleton_append, Lib.parseUintM]
      have e : (UInt8.ofNat (48 + u)).toNat = 48 + u := by simp; omega
      rw [e, if_pos (by omega), if_neg (by omega), if_neg (by omega)]
      congr 1; omega
    · rw [Lib.decDigits, dif_neg h, List.append_assoc, ih (u / 10) (by omega) _ (by omega), List.singleton_append, Lib.parseUintM]
      have e : (UInt8.ofNat (48 + u % 10)).toNat = 48 + u % 10 := by simp; omega
      rw [e, if_pos (by omega), if_neg (by omega), if_neg (by omega)]
      congr 1; omega
theorem parse_dec10 (u : Nat) : ∀ r, u ≤ 18446744073709551615 → Lib.parseUint10 0 (Lib.decDigits u ++ r) = Lib.parseUint10 u r := by
  induction u using Nat.strongRecOn with
  | _ u ih =>
    intro r hu
    by_cases h : u < 10
    · rw [Lib.decDigits, dif_pos h, List.singleton_append, Lib.parseUint10]
      have e : (UInt8.ofNat (48 + u)).toNat = 48 + u := by simp; omega
      rw [e, if_pos (by omega), if_neg (by omega), if_neg (by omega)]
      congr 1; omega
    · rw [Lib.decDigits, dif_neg h, List.append_assoc, ih (u / 10) (by omega) _ (by omega), List.singleton_append, Lib.parseUint10]
      have e : (UInt8.ofNat (48 + u % 10)).toNat = 48 + u % 10 := by simp; omega
      rw [e, if_pos (by omega), if_neg (by omega), if_neg (by omega)]
      congr 1; omega
theorem dec_ne (u : Nat) : Lib.decDigits u ≠ [] := fun h => by have := congrArg List.length h; rw [Lib.decDigits_length] at this; have := Lib.nDigits_pos u; simp at *; omega
theorem dec_digit (u : Nat) : ∀ c, c ∈ Lib.decDigits u → 48 ≤ c.toNat ∧ c.toNat ≤ 57 := by
  induction u using Nat.strongRecOn with
  | _ u ih =>
    intro c hc
    by_cases h : u < 10
    · rw [Lib.decDigits, dif_pos h] at hc
      simp at hc; subst hc; simp; omega
    · rw [Lib.decDigits, dif_neg h] at hc
      rcases List.mem_append.1 hc with hc | hc
      · exact ih (u / 10) (by omega) c hc
      · simp at hc; subst hc; simp; omega
theorem parseU {n : Int} (h : 0 ≤ n ∧ n ≤ 18446744073709551615) : Lib.parseUintB 64 (numL n) = .ok n.toNat := by
  rw [numL_pos h.1, Lib.parseUintB, if_neg (dec_ne _)]
  have := parse_dec (M := 2 ^ 64 - 1) (by decide) n.toNat [] (by omega)
  rw [List.append_nil] at this
  rw [this]; rfl
theorem parseA {n : Int} (h : -9223372036854775808 ≤ n ∧ n ≤ 9223372036854775807) : Lib.atoiAll (numL n) = .ok n := by
  have key : ∀ u : Nat, u ≤ 18446744073709551615 → Lib.parseMag (Lib.decDigits u) = .ok u := fun u hu => by
    rw [Lib.parseMag, if_neg (dec_ne _)]
    have := parse_dec10 u [] hu
    rw [List.append_nil] at this
    rw [this]; rfl
  unfold numL Lib.itoa
  split
  · rename_i hn
    simp only [Lib.atoiAll]
    rw [if_pos (by right; rfl), key _ (by omega)]
    simp only
    rw [if_neg (by simp), if_neg (by omega), if_pos (by rfl)]
    congr 1; omega
  · rename_i hn
    have hd := dec_digit n.toNat
    have k := key n.toNat (by omega)
    cases hc : Lib.decDigits n.toNat with
    | nil => exact absurd hc (dec_ne _)
    | cons c r =>
      rw [hc] at hd k
      have := hd c (by simp)
      simp only [Lib.atoiAll]
      rw [if_neg (by omega), k]
      simp only
      rw [if_neg (by omega), if_neg (by omega), if_neg (by omega)]
      congr 1; omega
end Go.Proofs.YtjoojmmfelmgkaaDoor
