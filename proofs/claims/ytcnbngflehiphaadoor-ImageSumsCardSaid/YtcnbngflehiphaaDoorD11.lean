/- Contracts of functions of this program, and the plain facts that they rest on. No conditions. -/
import Derived.Laws.Bits64
namespace Go.Proofs.YtcnbngflehiphaaDoor
set_option maxRecDepth 100000
def tabN : List Nat := [0x00000000, 0x105ec76f, 0x20bd8ede, 0x30e349b1, 0x417b1dbc, 0x5125dad3, 0x61c69362, 0x7198540d, 0x82f63b78, 0x92a8fc17, 0xa24bb5a6, 0xb21572c9, 0xc38d26c4, 0xd3d3e1ab, 0xe330a81a, 0xf36e6f75]
def tN (n : Nat) : Nat := tabN.getD n 0
/-- Four steps of the register. -/
def nN (x : Nat) : Nat := (x / 16) ^^^ tN (x % 16)
theorem tN_lin : ∀ m, m < 16 → ∀ n, n < 16 → tN (m ^^^ n) = tN m ^^^ tN n := by decide
theorem tN_top : ∀ m, m < 16 → tN m / 268435456 = m ∧ tN m < 4294967296 := by decide
theorem tN_big : ∀ s, s < 4 → ∀ w, w < 16 → w % 2 ^ s = 0 → w = 0 ∨ 2 ^ (28 + s) ≤ tN w := by decide
theorem xor_lc (a b c : Nat) : a ^^^ (b ^^^ c) = b ^^^ (a ^^^ c) := by rw [← Nat.xor_assoc, Nat.xor_comm a b, Nat.xor_assoc]
theorem xor_div16 (a b : Nat) : (a ^^^ b) / 16 = a / 16 ^^^ b / 16 := by
  have := Nat.shiftRight_xor_distrib (a := a) (b := b) (i := 4)
  rw [Nat.shiftRight_eq_div_pow, Nat.shiftRight_eq_div_pow, Nat.shiftRight_eq_div_pow] at this
  exact this
theorem xor_mod16 (a b : Nat) : (a ^^^ b) % 16 = a % 16 ^^^ b % 16 := Nat.xor_mod_two_pow (n := 4)
theorem nN_lin (a b : Nat) : nN (a ^^^ b) = nN a ^^^ nN b := by
  unfold nN
  rw [xor_div16, xor_mod16, tN_lin _ (by omega) _ (by omega)]
  rw [Nat.xor_assoc, Nat.xor_assoc, xor_lc (b / 16)]
theorem nN_0 : nN 0 = 0 := by decide
theorem xor_lt32 {a b : Nat} (ha : a < 4294967296) (hb : b < 4294967296) : a ^^^ b < 4294967296 := Nat.xor_lt_two_pow (n := 32) ha hb
theorem nN_lt {x : Nat} (h : x < 4294967296) : nN x < 4294967296 := xor_lt32 (by omega) (tN_top _ (by omega)).2
theorem nN_ne {x : Nat} (h : x < 4294967296) (hx : x ≠ 0) : nN x ≠ 0 := by
  intro h0
  unfold nN at h0
  have h1 : x / 16 = tN (x % 16) := by
    have := congrArg (· ^^^ tN (x % 16)) h0
    simp only [Nat.xor_assoc, Nat.xor_self, Nat.xor_zero, Nat.zero_xor] at this
    exact this
  have h2 := (tN_top (x % 16) (by omega)).1
  have h3 : tN 0 = 0 := by decide
  have h4 : x % 16 = 0 := by omega
  rw [h4, h3] at h1
  omega
def nK : Nat → Nat → Nat
  | 0, x => x
  | k + 1, x => nK k (nN x)
theorem nK_lin : ∀ (k a b : Nat), nK k (a ^^^ b) = nK k a ^^^ nK k b
  | 0, _, _ => rfl
  | k + 1, a, b => by rw [nK, nN_lin, nK_lin k]; rfl
theorem nK_ne : ∀ (k : Nat) {x : Nat}, x < 4294967296 → x ≠ 0 → nK k x ≠ 0
  | 0, _, _, h => h
  | k + 1, _, h1, h2 => nK_ne k (nN_lt h1) (nN_ne h1 h2)
/-- What differs in the register after k nibbles that differ by those of X. -/
def fd : Nat → Nat → Nat → Nat
  | D, _, 0 => D
  | D, X, k + 1 => fd (nN (D ^^^ X % 16)) (X / 16) k
theorem fd_lin : ∀ (k D X : Nat), fd D X k = fd 0 X k ^^^ nK k D
  | 0, D, X => by show D = 0 ^^^ D; simp
  | k + 1, D, X => by
    rw [fd, fd, fd_lin k, fd_lin k (nN (0 ^^^ X % 16)), nN_lin, nK_lin, Nat.zero_xor, Nat.xor_assoc]
    congr 1
    rw [Nat.xor_comm]; rfl
theorem nN_small {w : Nat} (h : w < 16) : nN w = tN w := by unfold nN; rw [show w / 16 = 0 by omega, show w % 16 = w by omega, Nat.zero_xor]
theorem fd_val : ∀ (k V : Nat), V < 16 ^ k → V < 4294967296 → fd 0 V k = nK k V
  | 0, V, h, _ => by
    obtain rfl : V = 0 := by simpa using h
    rfl
  | k + 1, V, h, h2 => by
    rw [fd, fd_lin, fd_val k (V / 16) (by rw [Nat.pow_succ] at h; omega) (by omega), Nat.zero_xor, nN_small (by omega), ← nK_lin]
    rfl
theorem fd_burst : ∀ (t m Y : Nat), Y < 4294967296 → Y ≠ 0 → Y * 2 ^ t < 16 ^ m → fd 0 (Y * 2 ^ t) m ≠ 0
  | t, 0, Y, _, h, h2 => by
    exfalso
    have := Nat.two_pow_pos t
    have : 0 < Y * 2 ^ t := Nat.mul_pos (by omega) this
    simp at h2; omega
  | t, m + 1, Y, h1, h, h2 => by
    by_cases ht : 4 ≤ t
    · obtain ⟨t, rfl⟩ : ∃ t', t = t' + 4 := ⟨t - 4, by omega⟩
      have e : Y * 2 ^ (t + 4) = 16 * (Y * 2 ^ t) := by rw [Nat.pow_add, ← Nat.mul_assoc, Nat.mul_comm]
      rw [e] at h2 ⊢
      rw [fd, show 16 * (Y * 2 ^ t) % 16 = 0 by omega, show 16 * (Y * 2 ^ t) / 16 = Y * 2 ^ t by omega, Nat.zero_xor, nN_0]
      exact fd_burst t m Y h1 h (by rw [Nat.pow_succ] at h2; omega)
    · have hp : 2 ^ t ≤ 8 := by
        have := Nat.pow_le_pow_right (show 0 < 2 by decide) (show t ≤ 3 by omega)
        exact this
      have hpos := Nat.two_pow_pos t
      have hz0 : 0 < Y * 2 ^ t := Nat.mul_pos (by omega) hpos
      have hmod : (Y * 2 ^ t) % 2 ^ t = 0 := Nat.mul_mod_left _ _
      have hmod2 : (Y * 2 ^ t) % 16 % 2 ^ t = 0 := by
        rw [Nat.mod_mod_of_dvd _ (show 2 ^ t ∣ 16 from Nat.pow_dvd_pow 2 (show t ≤ 4 by omega))]; exact hmod
      have hV : Y * 2 ^ t / 16 < 2 ^ (28 + t) := by
        rw [Nat.div_lt_iff_lt_mul (by decide), Nat.pow_add, Nat.mul_right_comm]
        exact Nat.mul_lt_mul_of_pos_right h1 hpos
      have hV32 : Y * 2 ^ t / 16 < 4294967296 := Nat.lt_of_lt_of_le hV (by
        have := Nat.pow_le_pow_right (show 0 < 2 by decide) (show 28 + t ≤ 32 by omega)
        exact this)
      rw [fd, Nat.zero_xor, fd_lin, fd_val m _ (by rw [Nat.pow_succ] at h2; omega) hV32, ← nK_lin]
      have hw : (Y * 2 ^ t) % 16 < 16 := Nat.mod_lt _ (by decide)
      refine nK_ne m (xor_lt32 hV32 (nN_lt (by omega))) fun h0 => ?_
      have h3 : Y * 2 ^ t / 16 = nN (Y * 2 ^ t % 16) := by
        have := congrArg (· ^^^ nN (Y * 2 ^ t % 16)) h0
        simp only [Nat.xor_assoc, Nat.xor_self, Nat.xor_zero, Nat.zero_xor] at this
        exact this
      rw [nN_small hw] at h3
      rcases tN_big t (by omega) _ hw hmod2 with h4 | h4
      · rw [h4, show tN 0 = 0 by decide] at h3
        omega
      · omega
/-! Bytes. -/
def stN (r b : Nat) : Nat := nN (nN (r ^^^ b))
def upN (r : Nat) : List UInt8 → Nat
  | [] => r
  | b :: l => upN (stN r b.toNat) l
theorem nN_hi {h : Nat} (hh : h < 268435456) : nN (16 * h) = h := by
  unfold nN; rw [show 16 * h / 16 = h by omega, show 16 * h % 16 = 0 by omega, show tN 0 = 0 by decide, Nat.xor_zero]
theorem split16 {e : Nat} : e = e % 16 ^^^ 16 * (e / 16) := by
  have h1 : e % 16 < 2 ^ 4 := Nat.mod_lt _ (by decide)
  have h2 := Nat.two_pow_add_eq_or_of_lt h1 (e / 16)
  apply Nat.eq_of_testBit_eq
  intro i
  rw [Nat.testBit_xor, show (16 : Nat) = 2 ^ 4 from rfl, Nat.testBit_mod_two_pow, Nat.testBit_two_pow_mul, Nat.testBit_div_two_pow]
  by_cases hi : i < 4
  · simp [hi, show ¬ 4 ≤ i by omega]
  · simp [hi, show 4 ≤ i by omega, show i - 4 + 4 = i by omega]
theorem st_dif (r1 r2 b1 b2 : Nat) (h : b1 ^^^ b2 < 256) : stN r1 b1 ^^^ stN r2 b2 = fd (r1 ^^^ r2) (b1 ^^^ b2) 2 := by
  unfold stN
  rw [← nN_lin, ← nN_lin]
  have e : r1 ^^^ b1 ^^^ (r2 ^^^ b2) = (r1 ^^^ r2) ^^^ (b1 ^^^ b2) := by rw [Nat.xor_assoc, Nat.xor_assoc, xor_lc b1]
  rw [e]
  generalize b1 ^^^ b2 = x at *
  generalize r1 ^^^ r2 = D
  show _ = nN (nN (D ^^^ x % 16) ^^^ x / 16 % 16)
  congr 1
  conv => lhs; rw [split16 (e := x), ← Nat.xor_assoc, nN_lin, nN_hi (show x / 16 < 268435456 by omega)]
  rw [show x / 16 % 16 = x / 16 by omega]
theorem fd_two : ∀ (a k D X : Nat), fd D X (a + k) = fd (fd D X a) (X / 16 ^ a) k
  | 0, k, D, X => by simp [fd]
  | a + 1, k, D, X => by
    rw [show a + 1 + k = (a + k) + 1 by omega, fd, fd_two a k, fd, Nat.pow_succ, Nat.mul_comm, Nat.div_div_eq_div_mul]
theorem fd_mod : ∀ (k D X : Nat), fd D X k = fd D (X % 16 ^ k) k
  | 0, _, _ => rfl
  | k + 1, D, X => by
    have h1 : X % 16 ^ (k + 1) % 16 = X % 16 := Nat.mod_mod_of_dvd _ ⟨16 ^ k, by rw [Nat.pow_succ, Nat.mul_comm]⟩
    have h2 : X % 16 ^ (k + 1) / 16 = X / 16 % 16 ^ k := by rw [Nat.pow_succ, Nat.mul_comm, Nat.mod_mul_right_div_self]
    rw [fd, fd, h1, h2, fd_mod k _ (X / 16)]
/-- Byte k of a number. -/
def byteN (X k : Nat) : Nat := X / 256 ^ k % 256
theorem up_dif : ∀ (p q : List UInt8) (r1 r2 X : Nat), p.length = q.length → (∀ k, k < p.length → (p.getD k 0).toNat ^^^ (q.getD k 0).toNat = byteN X k) → upN r1 p ^^^ upN r2 q = fd (r1 ^^^ r2) X (2 * p.length)
  | [], [], r1, r2, X, _, _ => rfl
  | b :: p, c :: q, r1, r2, X, hl, h => by
    have h0 : b.toNat ^^^ c.toNat = X % 256 := by
      have := h 0 (by simp)
      unfold byteN at this
      simpa using this
    rw [upN, upN, up_dif p q _ _ (X / 256) (by simpa using hl) (fun k hk => by
      have := h (k + 1) (by simpa using hk)
      unfold byteN at this ⊢
      rw [Nat.div_div_eq_div_mul, Nat.mul_comm 256, ← Nat.pow_succ]
      simpa using this), st_dif _ _ _ _ (by rw [h0]; omega), h0]
    rw [show 2 * (b :: p).length = 2 + 2 * p.length by simp only [List.length_cons]; omega, fd_two 2 (2 * p.length), show (16 : Nat) ^ 2 = 256 from rfl, ← fd_mod 2 _ X]
  | [], _ :: _, _, _, _, hl, _ => by simp at hl
  | _ :: _, [], _, _, _, hl, _ => by simp at hl
/-! Bits turned over. -/
theorem byteN_xor (X Y k : Nat) : byteN (X ^^^ Y) k = byteN X k ^^^ byteN Y k := by
  unfold byteN
  have e : (256 : Nat) ^ k = 2 ^ (8 * k) := by rw [Nat.pow_mul]
  have h := Nat.shiftRight_xor_distrib (a := X) (b := Y) (i := 8 * k)
  rw [Nat.shiftRight_eq_div_pow, Nat.shiftRight_eq_div_pow, Nat.shiftRight_eq_div_pow] at h
  rw [e, h]
  exact Nat.xor_mod_two_pow (n := 8)
theorem byteN_pow (K k : Nat) : byteN (2 ^ K) k = if k = K / 8 then 2 ^ (K % 8) else 0 := by
  unfold byteN
  have e : (256 : Nat) ^ k = 2 ^ (8 * k) := by rw [Nat.pow_mul]
  rw [e]
  rcases Nat.lt_or_ge K (8 * k) with h | h
  · rw [if_neg (by omega), Nat.div_eq_of_lt (Nat.pow_lt_pow_right (by decide) h)]
  · rw [Nat.pow_div h (by decide)]
    by_cases h2 : k = K / 8
    · rw [if_pos h2, show K - 8 * k = K % 8 by omega]
      have : 2 ^ (K % 8) ≤ 2 ^ 7 := Nat.pow_le_pow_right (by decide) (by omega)
      exact Nat.mod_eq_of_lt (by omega)
    · rw [if_neg h2]
      obtain ⟨m, hm⟩ : ∃ m, K - 8 * k = 8 + m := ⟨K - 8 * k - 8, by omega⟩
      rw [hm, Nat.pow_add]
      exact Nat.mul_mod_right _ _
theorem byteN_lt (X k : Nat) : byteN X k < 256 := Nat.mod_lt _ (by decide)
theorem xor_lt8 {a b : Nat} (ha : a < 256) (hb : b < 256) : a ^^^ b < 256 := Nat.xor_lt_two_pow (n := 8) ha hb
/-- The bytes with the bits of X turned over. -/
def qL (p : List UInt8) (X : Nat) : List UInt8 := (List.range p.length).map fun k => UInt8.ofNat ((p.getD k 0).toNat ^^^ byteN X k)
theorem qL_len (p : List UInt8) (X : Nat) : (qL p X).length = p.length := by simp [qL]
theorem qL_at {p : List UInt8} {X k : Nat} (h : k < p.length) : (qL p X).getD k 0 = UInt8.ofNat ((p.getD k 0).toNat ^^^ byteN X k) := by
  unfold qL
  rw [List.getD_eq_getElem?_getD, List.getElem?_map, List.getElem?_range h]; rfl
theorem u8n {x : Nat} (h : x < 256) : (UInt8.ofNat x).toNat = x := by simp; omega
theorem qL_n {p : List UInt8} {X k : Nat} (h : k < p.length) : ((qL p X).getD k 0).toNat = (p.getD k 0).toNat ^^^ byteN X k := by
  rw [qL_at h, u8n (xor_lt8 (UInt8.toNat_lt _) (byteN_lt _ _))]
theorem qL_0 (p : List UInt8) : qL p 0 = p := by
  apply List.ext_getElem?
  intro i
  rcases Nat.lt_or_ge i p.length with h | h
  · have h1 := qL_at (X := 0) h
    rw [List.getD_eq_getElem?_getD, List.getElem?_eq_getElem (by rw [qL_len]; exact h)] at h1
    rw [List.getElem?_eq_getElem (by rw [qL_len]; exact h), List.getElem?_eq_getElem h]
    have hb : byteN 0 i = 0 := by unfold byteN; simp
    rw [hb, Nat.xor_zero, List.getD_eq_getElem?_getD, List.getElem?_eq_getElem h] at h1
    simp only [Option.getD_some] at h1
    rw [h1]; simp
  · rw [List.getElem?_eq_none (by rw [qL_len]; exact h), List.getElem?_eq_none h]
theorem qL_set {p : List UInt8} {X K : Nat} (h : K / 8 < p.length) : (qL p X).set (K / 8) (UInt8.ofNat (((qL p X).getD (K / 8) 0).toNat ^^^ 2 ^ (K % 8))) = qL p (X ^^^ 2 ^ K) := by
  apply List.ext_getElem?
  intro i
  rw [List.getElem?_set]
  by_cases h1 : K / 8 = i
  · subst h1
    rw [if_pos rfl, if_pos (by rw [qL_len]; exact h)]
    have h2 := qL_at (X := X ^^^ 2 ^ K) h
    rw [List.getD_eq_getElem?_getD, List.getElem?_eq_getElem (by rw [qL_len]; exact h)] at h2
    rw [List.getElem?_eq_getElem (by rw [qL_len]; exact h)]
    simp only [Option.getD_some] at h2
    rw [h2, qL_n h, byteN_xor, byteN_pow, if_pos rfl, Nat.xor_assoc]
  · rw [if_neg h1]
    rcases Nat.lt_or_ge i p.length with h3 | h3
    · have h2 := qL_at (X := X ^^^ 2 ^ K) h3
      have h4 := qL_at (X := X) h3
      rw [List.getD_eq_getElem?_getD, List.getElem?_eq_getElem (by rw [qL_len]; exact h3)] at h2 h4
      rw [List.getElem?_eq_getElem (by rw [qL_len]; exact h3), List.getElem?_eq_getElem (by rw [qL_len]; exact h3)]
      simp only [Option.getD_some] at h2 h4
      rw [h2, h4, byteN_xor, byteN_pow, if_neg (fun e => h1 e.symm), Nat.xor_zero]
    · rw [List.getElem?_eq_none (by rw [qL_len]; exact h3), List.getElem?_eq_none (by rw [qL_len]; exact h3)]
/-- The bits that Burst has turned over after j of them. -/
def cndJ (bit : Int) (pat n j : Nat) : Bool := decide (pat / 2 ^ j % 2 = 1) && decide (0 ≤ bit + j ∧ bit + j < 8 * n)
def xJ (bit : Int) (pat n : Nat) : Nat → Nat
  | 0 => 0
  | j + 1 => if cndJ bit pat n j = true then xJ bit pat n j ^^^ 2 ^ (bit + j).toNat else xJ bit pat n j
theorem xJ_form (bit : Int) (pat n : Nat) : ∀ j, (∃ Y, xJ bit pat n j = Y * 2 ^ bit.toNat ∧ Y < 2 ^ j) ∧ xJ bit pat n j < 2 ^ (8 * n)
  | 0 => ⟨⟨0, by simp [xJ], by decide⟩, Nat.two_pow_pos _⟩
  | j + 1 => by
    obtain ⟨⟨Y, h1, h2⟩, h3⟩ := xJ_form bit pat n j
    rw [xJ]
    have hle : 2 ^ j ≤ 2 ^ (j + 1) := Nat.pow_le_pow_right (by decide) (by omega)
    by_cases hc : cndJ bit pat n j = true
    · rw [if_pos hc]
      unfold cndJ at hc
      rw [Bool.and_eq_true, decide_eq_true_iff, decide_eq_true_iff] at hc
      obtain ⟨_, hk1, hk2⟩ := hc
      have hK : (bit + j).toNat = bit.toNat + ((bit + j).toNat - bit.toNat) := by omega
      have hd : (bit + j).toNat - bit.toNat ≤ j := by omega
      refine ⟨⟨Y ^^^ 2 ^ ((bit + j).toNat - bit.toNat), ?_, ?_⟩, ?_⟩
      · rw [h1]
        conv => lhs; rw [hK, Nat.pow_add, Nat.mul_comm (2 ^ bit.toNat)]
        have := Nat.shiftLeft_xor_distrib (a := Y) (b := 2 ^ ((bit + j).toNat - bit.toNat)) (i := bit.toNat)
        rw [Nat.shiftLeft_eq, Nat.shiftLeft_eq, Nat.shiftLeft_eq] at this
        exact this.symm
      · exact Nat.xor_lt_two_pow (Nat.lt_of_lt_of_le h2 hle) (Nat.pow_lt_pow_right (by decide) (by omega))
      · exact Nat.xor_lt_two_pow h3 (Nat.pow_lt_pow_right (by decide) (by omega))
    · rw [if_neg hc]
      exact ⟨⟨Y, h1, Nat.lt_of_lt_of_le h2 hle⟩, h3⟩
theorem burst_ne (p : List UInt8) (bit : Int) (pat r : Nat) : qL p (xJ bit pat p.length 32) = p ∨ upN r p ≠ upN r (qL p (xJ bit pat p.length 32)) := by
  obtain ⟨⟨Y, h1, h2⟩, h3⟩ := xJ_form bit pat p.length 32
  by_cases hY : Y = 0
  · rw [hY, Nat.zero_mul] at h1
    rw [h1]; exact .inl (qL_0 p)
  · refine .inr fun he => ?_
    have hd := up_dif p (qL p (xJ bit pat p.length 32)) r r (xJ bit pat p.length 32) (qL_len _ _).symm (fun k hk => by rw [qL_n hk, ← Nat.xor_assoc, Nat.xor_self, Nat.zero_xor])
    rw [he, Nat.xor_self, Nat.xor_self, h1] at hd
    refine fd_burst bit.toNat (2 * p.length) Y h2 hY ?_ hd.symm
    rw [← h1, show (16 : Nat) = 2 ^ 4 from rfl, ← Nat.pow_mul, show 4 * (2 * p.length) = 8 * p.length by omega]
    exact h3
end Go.Proofs.YtcnbngflehiphaaDoor
