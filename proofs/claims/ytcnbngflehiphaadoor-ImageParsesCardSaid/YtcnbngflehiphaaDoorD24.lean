/- Contracts of functions of this program, and the plain facts that they rest on. No conditions. -/
import Derived.Test.YtcnbngflehiphaaDoorD22
import Derived.Test.YtcnbngflehiphaaDoorD23
set_option linter.unusedSimpArgs false
set_option linter.unusedVariables false
namespace Go.Proofs.YtcnbngflehiphaaDoor
open Go Go.Ab
attribute [local irreducible] callK callF loopQ vstep vskip pickE hideP
open Go.RowKit
set_option maxRecDepth 100000
/-! Texts, there and back. -/
theorem ext_getD {a b : List UInt8} (h : a.length = b.length) (hg : ∀ j, j < a.length → a.getD j 0 = b.getD j 0) : a = b := by
  apply List.ext_getElem h
  intro j h1 h2
  have := hg j h1
  rw [List.getD_eq_getElem?_getD, List.getD_eq_getElem?_getD, List.getElem?_eq_getElem h1, List.getElem?_eq_getElem h2] at this
  exact this
theorem putM_out (l : List UInt8) (o : Nat) (v : Int) (j : Nat) : ∀ n, j < o ∨ o + n ≤ j → (putM l o v n).getD j 0 = l.getD j 0
  | 0, _ => rfl
  | n + 1, h => by
    rw [putM, List.getD_eq_getElem?_getD, List.getElem?_set_ne (by omega), ← List.getD_eq_getElem?_getD]
    exact putM_out l o v j n (by omega)
theorem word_byte (l : List UInt8) (o k : Nat) (hk : k < 8) : wordU l o 8 / 256 ^ k % 256 = byteM l o k := by
  have b0 := byteM_lt l o 0
  have b1 := byteM_lt l o 1
  have b2 := byteM_lt l o 2
  have b3 := byteM_lt l o 3
  have b4 := byteM_lt l o 4
  have b5 := byteM_lt l o 5
  have b6 := byteM_lt l o 6
  have b7 := byteM_lt l o 7
  simp only [wordU]
  rcases eight hk with rfl | rfl | rfl | rfl | rfl | rfl | rfl | rfl <;> omega
theorem word_zero {l : List UInt8} {o : Nat} (h : wordU l o 8 = 0) (k : Nat) (hk : k < 8) : l.getD (o + k) 0 = 0 := by
  have := word_byte l o k hk
  rw [h, Nat.zero_div] at this
  unfold byteM at this
  apply u8_ext; show _ = 0; omega
theorem wordU_ext {l m : List UInt8} {o : Nat} : ∀ n, (∀ k, k < n → l.getD (o + k) 0 = m.getD (o + k) 0) → wordU l o n = wordU m o n
  | 0, _ => rfl
  | n + 1, h => by
    rw [wordU, wordU, wordU_ext n (fun k hk => h k (by omega)), byteM, byteM, h n (by omega)]
theorem putM_word (p l : List UInt8) (o : Nat) (h : o + 8 ≤ p.length) (j : Nat) : (putM p o (wordU l o 8 : Nat) 8).getD j 0 = if o ≤ j ∧ j < o + 8 then l.getD j 0 else p.getD j 0 := by
  by_cases hj : o ≤ j ∧ j < o + 8
  · rw [if_pos hj]
    obtain ⟨k, rfl⟩ : ∃ k, j = o + k := ⟨j - o, by omega⟩
    rw [putM_get p o _ 8 k (by omega) h]
    have e := word_byte l o k (by omega)
    have e2 : ((wordU l o 8 : Nat) : Int) / 256 ^ k % 256 = ((byteM l o k : Nat) : Int) := by rw [← e]; push_cast; rfl
    rw [e2]
    unfold byteM
    apply u8_ext
    have := UInt8.toNat_lt (l.getD (o + k) 0)
    simp
  · rw [if_neg hj]; exact putM_out p o _ j 8 (by omega)
/-! The words of a row. -/
theorem wordsM_split (l : List UInt8) (i k : Nat) : ∀ m, k < m → ∃ s, wordsM l i m = wordsM l i k ++ (32 :: hexM (wordU l (i * 64 + k * 8) 8) 16) ++ s
  | m + 1, h => by
    rcases Nat.lt_or_ge k m with h1 | h1
    · obtain ⟨s, hs⟩ := wordsM_split l i k m h1
      rw [wordsM, hs]; exact ⟨s ++ [32] ++ hexM (wordU l (i * 64 + m * 8) 8) 16, by simp only [List.append_assoc]⟩
    · obtain rfl : k = m := by omega
      rw [wordsM]; exact ⟨[], by simp⟩
theorem part_words (l : List UInt8) (i k : Nat) (hk : k < 8) : partOk (wordsM l i 8) k = true ∧ partV (wordsM l i 8) k = wordU l (i * 64 + k * 8) 8 := by
  obtain ⟨s, hs⟩ := wordsM_split l i k 8 hk
  have h1 := wordsM_len l i k
  have h2 := hxV_hexM (wordU_64 l (i * 64 + k * 8))
  have h3 := hexM_len (wordU l (i * 64 + k * 8) 8) 16
  generalize wordsM l i 8 = r at *
  generalize wordsM l i k = a at *
  generalize hexM (wordU l (i * 64 + k * 8) 8) 16 = x at *
  have e1 : r.getD (17 * k) 0 = 32 := by
    rw [hs, List.append_assoc, List.getD_eq_getElem?_getD, List.getElem?_append_right (by omega), h1, Nat.sub_self]; rfl
  have e2 : (r.drop (17 * k + 1)).take 16 = x := by
    have : r = (a ++ [32]) ++ (x ++ s) := by rw [hs]; simp
    rw [this, List.drop_left' (by rw [List.length_append, h1]; rfl), List.take_left' h3]
  refine ⟨part_iff.2 ⟨e1, by rw [e2]; exact h2.1⟩, ?_⟩
  unfold partV; rw [e2]; exact h2.2
theorem words_take (r : List UInt8) (hr : r.length = 136) (ha : allOk r = true) (q : List UInt8) (n : Nat) (hq : ∀ k, k < 8 → wordU q (n * 64 + k * 8) 8 = partV r k) : ∀ k, k ≤ 8 → wordsM q n k = r.take (17 * k)
  | 0, _ => rfl
  | k + 1, h => by
    obtain ⟨h1, h2⟩ := part_iff.1 (allOk_iff.1 ha k (by omega))
    rw [wordsM, words_take r hr ha q n hq k (by omega), hq k (by omega), partV, hexM_back h2]
    have h3 : 17 * k < r.length := by omega
    have e1 : r.take (17 * k + 1) = r.take (17 * k) ++ [32] := by
      rw [List.take_succ_eq_append_getElem h3]
      rw [List.getD_eq_getElem?_getD, List.getElem?_eq_getElem h3] at h1
      have h4 : r[17 * k] = 32 := h1
      rw [h4]
    rw [← e1, ← List.take_add]; rfl
theorem words_back {r : List UInt8} (hr : r.length = 136) (ha : allOk r = true) {q : List UInt8} {n : Nat} (hq : ∀ k, k < 8 → wordU q (n * 64 + k * 8) 8 = partV r k) : wordsM q n 8 = r := by
  rw [words_take r hr ha q n hq 8 (Nat.le_refl _), List.take_of_length_le (by omega)]
theorem putR_out (p : List UInt8) (n : Nat) (r : List UInt8) (j : Nat) : ∀ k, j < n * 64 ∨ n * 64 + k * 8 ≤ j → (putR p n r k).getD j 0 = p.getD j 0
  | 0, _ => rfl
  | k + 1, h => by rw [putR, putM_out _ _ _ _ _ (by omega), putR_out p n r j k (by omega)]
theorem putR_word (p : List UInt8) (n : Nat) (r : List UInt8) (hp : n * 64 + 64 ≤ p.length) (k : Nat) : ∀ m, k < m → m ≤ 8 → wordU (putR p n r m) (n * 64 + k * 8) 8 = partV r k
  | m + 1, h, hm => by
    rcases Nat.lt_or_ge k m with h1 | h1
    · rw [← putR_word p n r hp k m h1 (by omega), putR]
      exact wordU_ext 8 fun j hj => putM_out _ _ _ _ _ (by omega)
    · obtain rfl : k = m := by omega
      have h2 := partV_lt r k
      have := word_putM (putR p n r k) (n * 64 + k * 8) (partV r k) (by rw [putR_len]; omega) (by omega)
      rw [putR]; omega
theorem putR_words (p l : List UInt8) (n : Nat) (hp : n * 64 + 64 ≤ p.length) (j : Nat) : ∀ k, k ≤ 8 → (putR p n (wordsM l n 8) k).getD j 0 = if n * 64 ≤ j ∧ j < n * 64 + k * 8 then l.getD j 0 else p.getD j 0
  | 0, _ => by rw [if_neg (by omega)]; rfl
  | k + 1, h => by
    rw [putR, (part_words l n k (by omega)).2, putM_word _ _ _ (by rw [putR_len]; omega), putR_words p l n hp j k (by omega)]
    by_cases h1 : n * 64 ≤ j ∧ j < n * 64 + k * 8
    · rw [if_pos h1, if_neg (by omega), if_pos (by omega)]
    · rw [if_neg h1]
      by_cases h2 : n * 64 + k * 8 ≤ j ∧ j < n * 64 + k * 8 + 8
      · rw [if_pos h2, if_pos (by omega)]
      · rw [if_neg h2, if_neg (by omega)]
/-! The rows from a on. -/
def rowsF (l : List UInt8) : Nat → Nat → List UInt8
  | _, 0 => []
  | a, k + 1 => rowM l a ++ rowsF l (a + 1) k
theorem rowsF_lines (l : List UInt8) : ∀ (k a : Nat), linesM l a ++ rowsF l a k = linesM l (a + k)
  | 0, a => by rw [rowsF, List.append_nil]; rfl
  | k + 1, a => by
    rw [rowsF, ← List.append_assoc, show linesM l a ++ rowM l a = linesM l (a + 1) from rfl, rowsF_lines l k (a + 1), show a + 1 + k = a + (k + 1) by omega]
theorem rowsF_add (l : List UInt8) (m : Nat) : ∀ (k a : Nat), rowsF l a (k + m) = rowsF l a k ++ rowsF l (a + k) m
  | 0, a => by rw [Nat.zero_add, rowsF, List.nil_append, Nat.add_zero]
  | k + 1, a => by
    rw [show k + 1 + m = (k + m) + 1 by omega, rowsF, rowsF, rowsF_add l m k (a + 1), List.append_assoc, show a + 1 + k = a + (k + 1) by omega]
theorem rowsF_zero (l : List UInt8) : ∀ (k a : Nat), (∀ i, a ≤ i → i < a + k → allZ (lineM l i) = true) → rowsF l a k = []
  | 0, _, _ => rfl
  | k + 1, a, h => by
    rw [rowsF, rowsF_zero l k (a + 1) (fun i h1 h2 => h i (by omega) (by omega)), rowM, if_pos (h a (Nat.le_refl _) (by omega))]; rfl
theorem isHx_10 : isHx 10 = false := by decide
theorem nl_words (l : List UInt8) (i : Nat) : ∀ k, (10 : UInt8) ∉ wordsM l i k
  | 0, h => by cases h
  | k + 1, h => by
    rw [wordsM] at h
    rcases List.mem_append.1 h with h | h
    · rcases List.mem_append.1 h with h | h
      · exact nl_words l i k h
      · rw [List.mem_singleton] at h; revert h; decide
    · have := hexM_isHx _ _ _ h
      rw [isHx_10] at this; cases this
theorem any_words {l : List UInt8} {i : Nat} (hi : (i + 1) * 64 ≤ l.length) (hz : ¬ allZ (lineM l i) = true) : anyN (wordsM l i 8) = true := by
  apply Classical.byContradiction
  intro hn
  apply hz
  rw [line_mem hi]
  intro j hj
  have h0 : wordU l (i * 64 + j / 8 * 8) 8 = 0 := by
    apply Classical.byContradiction
    intro h1
    apply hn
    rw [anyN_iff]
    exact ⟨j / 8, by omega, by rw [(part_words l i (j / 8) (by omega)).2]; exact h1⟩
  have := word_zero h0 (j % 8) (by omega)
  rw [show i * 64 + j / 8 * 8 + j % 8 = 64 * i + j by omega] at this
  exact this
theorem goodL_inv {lines n : Nat} {prev : Int} {t r : List UInt8} (h : goodL lines prev t = some (n, r)) : lnS t = some (n, r) ∧ allOk r = true ∧ n < lines ∧ prev < n ∧ anyN r = true := by
  unfold goodL at h
  cases e : lnS t with
  | none => rw [e] at h; cases h
  | some x =>
    obtain ⟨n', r'⟩ := x
    rw [e] at h
    dsimp only at h
    split at h
    · rename_i hh
      simp only [Option.some.injEq, Prod.mk.injEq] at h
      obtain ⟨rfl, rfl⟩ := h
      exact ⟨rfl, hh⟩
    · cases h
theorem parF_rows (l : List UInt8) (L : Nat) (hl : l.length = 64 * L) (hL : L ≤ 4096) : ∀ (k a f : Nat) (p : List UInt8) (prev : Int) (at' : Nat), a + k = L → p.length = l.length → (∀ j, p.getD j 0 = if j < 64 * a then l.getD j 0 else 0) → prev < a → (rowsF l a k).length < f → parF L f (rowsF l a k) p prev at' = (l, 0, 0)
  | 0, a, f, p, prev, at', h1, h2, h3, h4, h5 => by
    rw [rowsF, parF_nil, ext_getD h2 (fun j hj => by rw [h3, if_pos (by omega)])]
  | k + 1, a, f, p, prev, at', h1, h2, h3, h4, h5 => by
    by_cases hz : allZ (lineM l a) = true
    · have e : rowsF l a (k + 1) = rowsF l (a + 1) k := by rw [rowsF, rowM, if_pos hz]; rfl
      rw [e] at h5 ⊢
      refine parF_rows l L hl hL k (a + 1) f p prev at' (by omega) h2 (fun j => ?_) (by omega) h5
      rw [h3]
      have hb := (line_mem (l := l) (n := a) (by omega)).1 hz
      by_cases g1 : j < 64 * a
      · rw [if_pos g1, if_pos (by omega)]
      · rw [if_neg g1]
        by_cases g2 : j < 64 * (a + 1)
        · rw [if_pos g2]
          have := hb (j - 64 * a) (by omega)
          rw [show 64 * a + (j - 64 * a) = j by omega] at this
          exact this.symm
        · rw [if_neg g2]
    · have hr := wordsM_len l a 8
      have e : rowsF l a (k + 1) = (numL a ++ 58 :: wordsM l a 8) ++ 10 :: rowsF l (a + 1) k := by
        rw [rowsF, rowM, if_neg hz]; simp
      obtain ⟨f', rfl⟩ : ∃ f', f = f' + 1 := ⟨f - 1, by omega⟩
      have h6 : (rowsF l (a + 1) k).length < f' := by
        rw [e] at h5; simp only [List.length_append, List.length_cons] at h5; omega
      have hn : (10 : UInt8) ∉ numL a ++ 58 :: wordsM l a 8 := by
        intro h
        rcases List.mem_append.1 h with h | h
        · exact nl_dec a h
        · rcases List.mem_cons.1 h with h | h
          · revert h; decide
          · exact nl_words l a 8 h
      rw [e, parF_cons (by simp), cut_hit 10 _ _ hn]
      dsimp only
      rw [goodL_yes (lnS_row (by omega) (by omega)) ⟨allOk_iff.2 fun k hk => (part_words l a k hk).1, by omega, h4, any_words (by omega) hz⟩]
      dsimp only
      refine parF_rows l L hl hL k (a + 1) f' _ _ _ (by omega) (by rw [putR_len]; exact h2) (fun j => ?_) (by omega) h6
      rw [putR_words p l a (by omega) j 8 (Nat.le_refl _), h3]
      by_cases g1 : j < 64 * a
      · rw [if_neg (by omega), if_pos g1, if_pos (by omega)]
      · rw [if_neg g1]
        by_cases g2 : j < 64 * (a + 1)
        · rw [if_pos g2, if_pos (by omega)]
        · rw [if_neg g2, if_neg (by omega)]
theorem parF_inv (L : Nat) (hL : L ≤ 4096) : ∀ (f : Nat) (rest p : List UInt8) (a at' : Nat) (prev : Int) (q : List UInt8), parF L f rest p prev at' = (q, 0, 0) → prev + 1 = a → rest.length < f → p.length = 64 * L → (∀ j, 64 * a ≤ j → p.getD j 0 = 0) → a ≤ L → q.length = 64 * L ∧ (∀ j, j < 64 * a → q.getD j 0 = p.getD j 0) ∧ rowsF q a (L - a) = rest
  | 0, _, _, _, _, _, _, _, _, h, _, _, _ => absurd h (by omega)
  | f + 1, rest, p, a, at', prev, q, h, hp, h1, h2, h3, h4 => by
    by_cases hr : rest = []
    · subst hr
      rw [parF_nil] at h
      simp only [Prod.mk.injEq, and_true] at h
      subst h
      refine ⟨h2, fun _ _ => rfl, rowsF_zero _ _ _ fun i g1 g2 => ?_⟩
      rw [line_mem (by omega)]
      exact fun j hj => h3 _ (by omega)
    · rw [parF_cons hr] at h
      rcases cut_spec 10 rest with ⟨_, hc⟩ | ⟨t, after, rfl, hx, hc⟩
      · rw [hc] at h; simp at h
      · rw [hc] at h
        dsimp only at h
        cases hg : goodL L prev t with
        | none => rw [hg] at h; simp at h
        | some x =>
          obtain ⟨n, r⟩ := x
          rw [hg] at h
          dsimp only at h
          obtain ⟨g1, g2, g3, g4, g5⟩ := goodL_inv hg
          have g6 := (lnS_lt g1).2
          have e1 := lnS_inv g1
          obtain ⟨i1, i2, i3⟩ := parF_inv L hL f after (putR p n r 8) (n + 1) (at' + 1) n q h (by omega) (by rw [List.length_append, List.length_cons] at h1; omega) (by rw [putR_len]; exact h2) (fun j hj => by rw [putR_out _ _ _ _ _ (by omega)]; exact h3 j (by omega)) (by omega)
          have i4 : ∀ j, j < 64 * n → q.getD j 0 = p.getD j 0 := fun j hj => by rw [i2 j (by omega), putR_out _ _ _ _ _ (by omega)]
          have i5 : ∀ k, k < 8 → wordU q (n * 64 + k * 8) 8 = partV r k := fun k hk => by
            rw [← putR_word p n r (by omega) k 8 hk (Nat.le_refl _)]
            exact wordU_ext 8 fun j hj => i2 _ (by omega)
          refine ⟨i1, fun j hj => i4 j (by omega), ?_⟩
          have hz : ¬ allZ (lineM q n) = true := by
            intro hz
            rw [line_mem (by omega)] at hz
            obtain ⟨k, hk, hk2⟩ := anyN_iff.1 g5
            apply hk2
            rw [← i5 k hk]
            have : ∀ m, m ≤ 8 → wordU q (n * 64 + k * 8) m = 0 := by
              intro m
              induction m with
              | zero => exact fun _ => rfl
              | succ m ih =>
                intro hm
                have := hz (k * 8 + m) (by omega)
                rw [wordU, ih (by omega), byteM, show n * 64 + k * 8 + m = 64 * n + (k * 8 + m) by omega, this]; simp
            exact this 8 (Nat.le_refl _)
          rw [show L - a = (n - a) + ((L - (n + 1)) + 1) by omega, rowsF_add, show a + (n - a) = n by omega, rowsF, i3, rowM, if_neg hz, words_back g6 g2 i5, e1, rowsF_zero]
          · simp
          · intro i j1 j2
            rw [line_mem (by omega)]
            intro j hj
            rw [i4 _ (by omega), h3 _ (by omega)]
theorem zeros_getD (n j : Nat) : (zerosM n).getD j 0 = 0 := by
  unfold zerosM
  rw [List.getD_eq_getElem?_getD, List.getElem?_replicate]
  split <;> rfl
theorem head_pre (x : List UInt8) : Lib.hasPrefix (headS ++ x) headS = true ∧ Lib.trimPrefix (headS ++ x) headS = x := by
  have h1 : Lib.hasPrefix (headS ++ x) headS = true := by
    unfold Lib.hasPrefix; rw [List.isPrefixOf_iff_prefix]; exact ⟨x, rfl⟩
  refine ⟨h1, ?_⟩
  unfold Lib.trimPrefix; rw [if_pos h1, List.drop_left]
theorem head_inv {s : List UInt8} (h : Lib.hasPrefix s headS = true) : s = headS ++ Lib.trimPrefix s headS := by
  unfold Lib.trimPrefix; rw [if_pos h]
  unfold Lib.hasPrefix at h; rw [List.isPrefixOf_iff_prefix] at h
  obtain ⟨x, rfl⟩ := h
  rw [List.drop_left]
theorem headN_num {n : Nat} (h : n ≤ 4096) : headN (headS ++ numL n) = some n := by
  unfold headN
  have h1 := head_pre (numL n)
  have h2 := numOk_dec (lim := 4096) h
  rw [h1.1, h1.2]
  show (if true = true ∧ numOk 4096 (Lib.decDigits n) = true then some (valA 0 (Lib.decDigits n)) else none) = _
  rw [if_pos ⟨rfl, h2.1⟩, h2.2]
theorem headN_inv {s : List UInt8} {n : Nat} (h : headN s = some n) : s = headS ++ numL n ∧ n ≤ 4096 := by
  unfold headN at h
  split at h
  · rename_i hh
    simp only [Option.some.injEq] at h
    have h1 := numOk_inv hh.2
    rw [h] at h1
    refine ⟨?_, h1.2⟩
    show s = headS ++ Lib.decDigits n
    rw [← h1.1]; exact head_inv hh.1
  · cases h
theorem nl_head (n : Nat) : (10 : UInt8) ∉ headS ++ numL n := by
  intro h
  rcases List.mem_append.1 h with h | h
  · revert h; decide
  · exact nl_dec n h
theorem textM_e {l : List UInt8} {L : Nat} (hl : l.length = 64 * L) : textM l = (headS ++ numL L) ++ 10 :: rowsF l 0 L := by
  have h1 : l.length / 64 = L := by omega
  have h2 := rowsF_lines l L 0
  rw [linesM_0, List.nil_append, Nat.zero_add] at h2
  rw [textM, headM, h1, h2]; simp [headS]
/-- Parse of a text. -/
theorem parM_text {l : List UInt8} (h64 : l.length % 64 = 0) (hl : l.length ≤ 262144) : parM (textM l) = (l, 0, 0) := by
  have hL : l.length = 64 * (l.length / 64) := by omega
  generalize l.length / 64 = L at *
  rw [textM_e hL]
  unfold parM
  rw [cut_hit 10 _ _ (nl_head L)]
  dsimp only
  rw [headN_num (by omega)]
  dsimp only
  exact parF_rows l L hL (by omega) L 0 _ _ (-1) 2 (by omega) (by simp [zerosM, hL]) (fun j => by rw [zeros_getD, if_neg (by omega)]) (by omega) (Nat.lt_succ_self _)
/-- The text of what Parse accepts. -/
theorem parM_inv {s q : List UInt8} (h : parM s = (q, 0, 0)) : textM q = s ∧ q.length % 64 = 0 ∧ q.length ≤ 262144 := by
  unfold parM at h
  rcases cut_spec 10 s with ⟨_, hc⟩ | ⟨t, after, rfl, hx, hc⟩
  · rw [hc] at h; simp at h
  · rw [hc] at h
    dsimp only at h
    cases hg : headN t with
    | none => rw [hg] at h; simp at h
    | some n =>
      rw [hg] at h
      dsimp only at h
      obtain ⟨h1, h2⟩ := headN_inv hg
      obtain ⟨i1, _, i3⟩ := parF_inv n h2 _ _ _ 0 2 (-1) q h (by omega) (by omega) (by simp [zerosM]) (fun j _ => zeros_getD _ j) (by omega)
      refine ⟨?_, by omega, by omega⟩
      rw [textM_e i1, h1]
      rw [Nat.sub_zero] at i3
      rw [i3]
theorem parF_cases (L : Nat) (hL : L ≤ 4096) : ∀ (f : Nat) (rest p : List UInt8) (prev : Int) (at' : Nat), p.length = 64 * L → (∃ q, parF L f rest p prev at' = (q, 0, 0) ∧ q.length = 64 * L) ∨ ∃ m, m ≤ at' + f ∧ parF L f rest p prev at' = ([], m, 11)
  | 0, _, p, _, _, h => .inl ⟨p, rfl, h⟩
  | f + 1, rest, p, prev, at', h => by
    by_cases hr : rest = []
    · subst hr; exact .inl ⟨p, parF_nil, h⟩
    · rw [parF_cons hr]
      rcases cut_spec 10 rest with ⟨_, hc⟩ | ⟨t, after, rfl, hx, hc⟩
      · rw [hc]; exact .inr ⟨at', by omega, rfl⟩
      · rw [hc]
        dsimp only
        cases hg : goodL L prev t with
        | none => exact .inr ⟨at', by omega, rfl⟩
        | some x =>
          obtain ⟨n, r⟩ := x
          dsimp only
          rcases parF_cases L hL f after (putR p n r 8) n (at' + 1) (by rw [putR_len]; exact h) with h1 | ⟨m, h1, h2⟩
          · exact .inl h1
          · exact .inr ⟨m, by omega, h2⟩
theorem parM_cases (s : List UInt8) : (∃ q, parM s = (q, 0, 0) ∧ textM q = s ∧ q.length % 64 = 0 ∧ q.length ≤ 262144) ∨ ∃ m, m ≤ s.length + 3 ∧ parM s = ([], m, 11) := by
  have key : (∃ q, parM s = (q, 0, 0)) ∨ ∃ m, m ≤ s.length + 3 ∧ parM s = ([], m, 11) := by
    unfold parM
    rcases cut_spec 10 s with ⟨_, hc⟩ | ⟨t, after, rfl, hx, hc⟩
    · rw [hc]; exact .inr ⟨1, by omega, rfl⟩
    · rw [hc]
      dsimp only
      cases hg : headN t with
      | none => exact .inr ⟨1, by omega, rfl⟩
      | some n =>
        dsimp only
        rcases parF_cases n (headN_inv hg).2 (after.length + 1) after (zerosM (64 * n)) (-1) 2 (by simp [zerosM]) with ⟨q, h1, _⟩ | ⟨m, h1, h2⟩
        · exact .inl ⟨q, h1⟩
        · exact .inr ⟨m, by rw [List.length_append, List.length_cons]; omega, h2⟩
  rcases key with ⟨q, h⟩ | h
  · exact .inl ⟨q, h, parM_inv h⟩
  · exact .inr h
end Go.Proofs.YtcnbngflehiphaaDoor
