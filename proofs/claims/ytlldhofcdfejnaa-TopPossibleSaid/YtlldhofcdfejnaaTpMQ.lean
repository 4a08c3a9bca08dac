/- Contracts of functions of this program, and the plain facts that they rest on. No conditions. -/
import Derived.Test.YtlldhofcdfejnaaTpJQ
set_option linter.unusedSimpArgs false
set_option linter.unusedVariables false
namespace Go.Proofs.Ytlldhofcdfejnaa
open Go Go.Ab
attribute [local irreducible] callK callF loopQ vstep vskip pickE hideP
set_option maxRecDepth 100000
theorem u8_ext2 {a b : UInt8} (h : a.toNat = b.toNat) : a = b := UInt8.toNat_inj.1 h
theorem ext_getD {a b : List UInt8} (h : a.length = b.length) (hg : ∀ j, j < a.length → a.getD j 0 = b.getD j 0) : a = b := by
 apply List.ext_getElem h
 intro j h1 h2
 have := hg j h1
 rw [List.getD_eq_getElem?_getD, List.getD_eq_getElem?_getD, List.getElem?_eq_getElem h1, List.getElem?_eq_getElem h2] at this
 exact this
theorem putM_out (l : List UInt8) (o : Nat) (v : Int) (j : Nat) : ∀ n, j < o ∨ o + n ≤ j → (putM l o v n).getD j 0 = l.getD j 0
 | 0, _ => rfl
 | n + 1, h => by
  rw [putM, List.getD_eq_getElem?_getD, List.getElem?_set_ne (by omega), ← List.getD_eq_getElem?_getD]
  exact putM_out l o v j n (by omega)
theorem word_byte (l : List UInt8) (o k : Nat) (hk : k < 8) : wordU l o 8 / 256 ^ k % 256 = byteM l o k := by
 have b0 := byteM_lt l o 0
 have b1 := byteM_lt l o 1
 have b2 := byteM_lt l o 2
 have b3 := byteM_lt l o 3
 have b4 := byteM_lt l o 4
 have b5 := byteM_lt l o 5
 have b6 := byteM_lt l o 6
 have b7 := byteM_lt l o 7
 simp only [wordU]
 rcases lt8 hk with rfl | rfl | rfl | rfl | rfl | rfl | rfl | rfl <;> omega
theorem wordU_ext {l m : List UInt8} {o : Nat} : ∀ n, (∀ k, k < n → l.getD (o + k) 0 = m.getD (o + k) 0) → wordU l o n = wordU m o n
 | 0, _ => rfl
 | n + 1, h => by
  rw [wordU, wordU, wordU_ext n (fun k hk => h k (by omega)), byteM, byteM, h n (by omega)]
theorem putM_get (l : List UInt8) (o : Nat) (v : Int) : ∀ n k, k < n → o + n ≤ l.length → (putM l o v n).getD (o + k) 0 = UInt8.ofNat (v / 256 ^ k % 256).toNat
 | n + 1, k, hk, h => by
  rw [putM, List.getD_eq_getElem?_getD, List.getElem?_set]
  by_cases e : o + n = o + k
  ·rw [if_pos e, if_pos (by rw [putM_len]; omega), show k = n by omega]; rfl
  ·rw [if_neg e, ← List.getD_eq_getElem?_getD, putM_get l o v n k (by omega) (by omega)]
theorem putM_byte (l : List UInt8) (o : Nat) (v : Int) (k : Nat) (hk : k < 8) (h : o + 8 ≤ l.length) : ((byteM (putM l o v 8) o k : Nat) : Int) = v / 256 ^ k % 256 := by
 unfold byteM
 rw [putM_get l o v 8 k hk h]
 have h0 : 0 ≤ v / 256 ^ k % 256 := Int.emod_nonneg _ (by decide)
 have h1 : v / 256 ^ k % 256 < 256 := Int.emod_lt_of_pos _ (by decide)
 generalize v / 256 ^ k % 256 = x at *
 simp; omega
theorem word_putM (l : List UInt8) (o : Nat) (v : Int) (h : o + 8 ≤ l.length) (hv : 0 ≤ v ∧ v ≤ 18446744073709551615) : ((wordU (putM l o v 8) o 8 : Nat) : Int) = v := by
 have b0 := putM_byte l o v 0 (by decide) h
 have b1 := putM_byte l o v 1 (by decide) h
 have b2 := putM_byte l o v 2 (by decide) h
 have b3 := putM_byte l o v 3 (by decide) h
 have b4 := putM_byte l o v 4 (by decide) h
 have b5 := putM_byte l o v 5 (by decide) h
 have b6 := putM_byte l o v 6 (by decide) h
 have b7 := putM_byte l o v 7 (by decide) h
 simp only [wordU]
 simp only [Int.reducePow] at b0 b1 b2 b3 b4 b5 b6 b7
 omega
theorem lw_w (p : List UInt8) (n : Nat) {j : Nat} (hj : j < 8) : lw p n 64 j = ((wordU p (64 * n + 8 * j) 8 : Nat) : Int) := by
 unfold lw; rw [show min 8 (64 - 8 * j) = 8 by omega]
def StOk (r : Nat) (m : Nat) (s : Int × Int) : Prop := ((r : Int) = s.1 / 64 ∧ s.1 % 8 = 0 ∧ 0 ≤ s.1) ∧ s.1 + 8 ≤ m ∧ 0 ≤ s.2 ∧ s.2 ≤ 18446744073709551615
theorem kSt_at (f : Nat → Int) (s : Int × Int) (j : Nat) : kSt f s j = if j = (s.1 % 64 / 8).toNat then s.2 else f j := rfl
theorem wB_w {p : List UInt8} {s : Int × Int} {r : Nat} (h : StOk r p.length s) (r' : Nat) {j : Nat} (hj : j < 8) : lw (wB p s) r' 64 j = if r' = r then kSt (lw p r 64) s j else lw p r' 64 j := by
 obtain ⟨⟨h1, h2, h3⟩, h4, h5, h6⟩ := h
 have out : ∀ a b : Nat, b < 8 → ((64 * a + 8 * b : Nat) : Int) ≠ s.1 → lw (wB p s) a 64 b = lw p a 64 b := by
  intro a b hb hne
  rw [lw_w _ _ hb, lw_w _ _ hb]
  congr 1
  apply wordU_ext
  intro k hk
  exact putM_out p _ _ _ 8 (by omega)
 by_cases e : r' = r
 ·subst e
  rw [if_pos rfl, kSt_at]
  split
  ·rename_i e2
   rw [lw_w _ _ hj, show 64 * r' + 8 * j = s.1.toNat by omega]
   exact word_putM p _ _ (by omega) ⟨h5, h6⟩
  ·rename_i e2
   exact out r' j hj (by omega)
 ·rw [if_neg e]
  exact out r' j hj (by omega)
theorem kAp_ext {f g : Nat → Int} {j : Nat} (l : List (Int × Int)) (h : f j = g j) : kAp f l j = kAp g l j := by
 unfold kAp
 induction l generalizing f g with
 | nil => exact h
 | cons s l ih =>
  rw [List.foldl_cons, List.foldl_cons]
  apply ih
  rw [kSt_at, kSt_at, h]
theorem wBs_w {r : Nat} (l : List (Int × Int)) : ∀ (p : List UInt8), (∀ s, s ∈ l → StOk r p.length s) → ∀ (r' j : Nat), j < 8 → lw (wBs p l) r' 64 j = if r' = r then kAp (lw p r 64) l j else lw p r' 64 j := by
 induction l with
 | nil => intro p _ r' j _; split <;> (rename_i e; first | (subst e; rfl) | rfl)
 | cons s l ih =>
  intro p hp r' j hj
  have hs := hp s (by simp)
  have hl : (wB p s).length = p.length := by rw [wB, putM_len]
  have h2 := ih (wB p s) (by rw [hl]; exact fun s hs => hp s (by simp [hs])) r' j hj
  rw [show wBs p (s :: l) = wBs (wB p s) l from rfl, h2, show kAp (lw p r 64) (s :: l) = kAp (kSt (lw p r 64) s) l from rfl]
  by_cases e : r' = r
  ·subst e
   rw [if_pos rfl, if_pos rfl]
   apply kAp_ext
   rw [wB_w hs r' hj, if_pos rfl]
  ·rw [if_neg e, if_neg e, wB_w hs r' hj, if_neg e]
theorem eqK_iff {f g : Nat → Int} : eqK f g ↔ ∀ j, j < 8 → f j = g j := by
 constructor
 ·rintro ⟨h0, h1, h2, h3, h4, h5, h6, h7⟩ j hj
  rcases lt8 hj with rfl | rfl | rfl | rfl | rfl | rfl | rfl | rfl <;> assumption
 ·intro h
  exact ⟨h 0 (by omega), h 1 (by omega), h 2 (by omega), h 3 (by omega), h 4 (by omega), h 5 (by omega), h 6 (by omega), h 7 (by omega)⟩
theorem bytes_eq {p q : List UInt8} {m : Nat} (hp : p.length = 64 * m) (hq : q.length = 64 * m) (h : ∀ r, r < m → ∀ j, j < 8 → lw p r 64 j = lw q r 64 j) : p = q := by
 apply ext_getD (by omega)
 intro i hi
 have h1 := h (i / 64) (by omega) (i % 64 / 8) (by omega)
 rw [lw_w _ _ (by omega), lw_w _ _ (by omega)] at h1
 have h1 : wordU p (64 * (i / 64) + 8 * (i % 64 / 8)) 8 = wordU q (64 * (i / 64) + 8 * (i % 64 / 8)) 8 := by omega
 have a := word_byte p (64 * (i / 64) + 8 * (i % 64 / 8)) (i % 8) (by omega)
 have b := word_byte q (64 * (i / 64) + 8 * (i % 64 / 8)) (i % 8) (by omega)
 rw [h1, b] at a
 unfold byteM at a
 rw [show 64 * (i / 64) + 8 * (i % 64 / 8) + i % 8 = i by omega] at a
 exact u8_ext2 a.symm
theorem prefM_iff (g : Nat → Int) (l : List (Int × Int)) : ∀ f, 0 ≤ prefM g l f ↔ ∃ c, c ≤ l.length ∧ eqK (kAp f (l.take c)) g := by
 induction l with
 | nil =>
  intro f
  by_cases h : eqK f g
  ·rw [prefM_e h]; exact ⟨fun _ => ⟨0, Nat.le_refl _, h⟩, fun _ => Int.le_refl _⟩
  ·rw [prefM_0 h]
   constructor
   ·intro h2; omega
   ·rintro ⟨c, _, h2⟩; rw [List.take_nil] at h2; exact absurd h2 h
 | cons s l ih =>
  intro f
  by_cases h : eqK f g
  ·rw [prefM_e h]; exact ⟨fun _ => ⟨0, Nat.zero_le _, h⟩, fun _ => Int.le_refl _⟩
  ·rw [prefM_n h]
   have hi := ih (kSt f s)
   constructor
   ·intro h2
    have h3 : 0 ≤ prefM g l (kSt f s) := by split at h2 <;> omega
    obtain ⟨c, hc, he⟩ := hi.1 h3
    exact ⟨c + 1, Nat.succ_le_succ hc, he⟩
   ·rintro ⟨c, hc, he⟩
    cases c with
    | zero => exact absurd he h
    | succ c =>
     have := hi.2 ⟨c, Nat.le_of_succ_le_succ hc, he⟩
     rw [if_neg (by omega)]; omega
theorem dgT_q : ∀ (H : Hs) (i : Nat), (dgT H i).2 = i / prodT H
 | [], i => by show i = i / 1; omega
 | l :: H, i => by
  rw [dgT, prodT_c, dgT_q H i, Nat.div_div_eq_div_mul, Nat.mul_comm (prodT H)]
theorem dgT_per : ∀ (H : Hs) (i c : Nat), (dgT H (i + prodT H * c)).1 = (dgT H i).1
 | [], i, c => rfl
 | l :: H, i, c => by
  rw [dgT, dgT, prodT_c]
  have e : i + (l.length + 1) * prodT H * c = i + prodT H * ((l.length + 1) * c) := by
   rw [Nat.mul_comm (l.length + 1), Nat.mul_assoc]
  simp only [e]
  rw [dgT_per H i, dgT_q, dgT_q, Nat.add_mul_div_left _ _ (prodT_pos H), Nat.add_mul_mod_self_left]
theorem dgT_0 {H : Hs} {i : Nat} (h : i < prodT H) : (dgT H i).2 = 0 := by rw [dgT_q]; exact Nat.div_eq_of_lt h
theorem dgT_ex : ∀ (H : Hs) (ds : List Nat), ds.length = H.length → (∀ a, a < H.length → ds.getD a default ≤ (H.getD a default).length) → ∃ i, i < prodT H ∧ (dgT H i).1 = ds
 | [], [], _, _ => ⟨0, by decide, rfl⟩
 | l :: H, c :: ds, hl, hd => by
  obtain ⟨i, hi, he⟩ := dgT_ex H ds (by simpa using hl) (fun a ha => by simpa using hd (a + 1) (by simpa using ha))
  have hc : c ≤ l.length := by simpa using hd 0 (by simp)
  refine ⟨i + prodT H * c, ?_, ?_⟩
  ·rw [prodT_c]
   have : prodT H * c + prodT H ≤ prodT H * (l.length + 1) := by
    rw [← Nat.mul_succ]; exact Nat.mul_le_mul_left _ (by omega)
   rw [Nat.mul_comm (l.length + 1)]; omega
  ·rw [dgT, dgT_per, he, dgT_q, Nat.add_mul_div_left _ _ (prodT_pos H), Nat.div_eq_of_lt hi, Nat.zero_add, Nat.mod_eq_of_lt (by omega)]
theorem dirL_pre (A : Dv) (k : Nat) : ∀ m, ∃ t, dirL A (k + m) = dirL A k ++ t
 | 0 => ⟨[], by rw [List.append_nil]; rfl⟩
 | m + 1 => by
  obtain ⟨t, ht⟩ := dirL_pre A k m
  exact ⟨_, by rw [← Nat.add_assoc, dirL_s, ht, List.append_assoc]⟩
theorem dirL_at {A : Dv} {k n : Nat} (hk : k < n) (h : A.hist k ≠ []) : (dirL A k).length < (dirL A n).length ∧ (dirL A n).getD (dirL A k).length default = k := by
 obtain ⟨t, ht⟩ := dirL_pre A (k + 1) (n - (k + 1))
 rw [show k + 1 + (n - (k + 1)) = n by omega, dirL_s, if_neg h, List.append_assoc] at ht
 rw [ht]
 constructor
 ·simp
 ·rw [List.getD_eq_getElem?_getD, List.getElem?_append_right (Nat.le_refl _), Nat.sub_self]; rfl
theorem dirL_mem {A : Dv} {n x : Nat} (h : x ∈ dirL A n) : x < n ∧ A.hist x ≠ [] := by
 unfold dirL at h
 rw [List.mem_filter, List.mem_range, decide_eq_true_eq] at h
 exact h
theorem getD_mem {α : Type} [Inhabited α] {l : List α} {a : Nat} (h : a < l.length) : l.getD a default ∈ l := by
 rw [List.getD_eq_getElem?_getD, List.getElem?_eq_getElem h]; exact List.getElem_mem h
theorem dirL_inj {A : Dv} {n a b : Nat} (ha : a < (dirL A n).length) (hb : b < (dirL A n).length) (h : (dirL A n).getD a default = (dirL A n).getD b default) : a = b := by
 have hn : (dirL A n).Nodup := List.Nodup.sublist List.filter_sublist List.nodup_range
 rw [List.getD_eq_getElem?_getD, List.getD_eq_getElem?_getD, List.getElem?_eq_getElem ha, List.getElem?_eq_getElem hb] at h
 rcases Nat.lt_trichotomy a b with h1 | h1 | h1
 ·exact absurd h (List.pairwise_iff_getElem.1 hn a b ha hb h1)
 ·exact h1
 ·exact absurd h.symm (List.pairwise_iff_getElem.1 hn b a hb ha h1)
theorem hA_map (A : Dv) : hA A = (dA A).map A.hist := by
 show ((dirL A A.n).take (dirL A A.n).length).map A.hist = _
 rw [List.take_length]
theorem hA_len (A : Dv) : (hA A).length = (dA A).length := by rw [hA_map, List.length_map]
theorem hA_at {A : Dv} {a : Nat} (h : a < (dA A).length) : (hA A).getD a default = A.hist ((dA A).getD a default) := by
 rw [hA_map, List.getD_eq_getElem?_getD, List.getD_eq_getElem?_getD, List.getElem?_map, List.getElem?_eq_getElem h]; rfl
theorem fnX_d (p b : List UInt8) {A : Dv} {k : Nat} (hk : k < A.n) {o : List Int} (ho : o.length = (dirL A k).length) : fnX p b (dA A) (hA A) k o = prefM (lw b k 64) (A.hist k) (lw p k 64) ∧ ((o.length < (dA A).length ∧ (dA A).getD o.length default = k) ↔ A.hist k ≠ []) := by
 by_cases h : A.hist k = []
 ·have hn : ¬ (o.length < (dA A).length ∧ (dA A).getD o.length default = k) := by
   rintro ⟨h1, h2⟩
   have := (dirL_mem (getD_mem h1)).2
   rw [show (dirL A A.n).getD o.length default = k from h2] at this
   exact this h
  refine ⟨?_, fun h2 => absurd h2 hn, fun h2 => absurd h h2⟩
  unfold fnX
  rw [if_neg hn, h]
 ·obtain ⟨h1, h2⟩ := dirL_at hk h
  rw [← ho] at h1 h2
  have hy : o.length < (dA A).length ∧ (dA A).getD o.length default = k := ⟨h1, h2⟩
  refine ⟨?_, fun _ => h, fun _ => hy⟩
  unfold fnX
  rw [if_pos hy, hA_at h1, hy.2]
theorem fnM_iff (p b : List UInt8) (A : Dv) : ∀ k, k ≤ A.n → ((∀ o, fnM p b (dA A) (hA A) k = some o → o.length = (dirL A k).length) ∧ ((fnM p b (dA A) (hA A) k).isSome = true ↔ ∀ r, r < k → 0 ≤ prefM (lw b r 64) (A.hist r) (lw p r 64)))
 | 0, _ => ⟨fun o h => (by cases h; rfl), fun _ r hr => absurd hr (Nat.not_lt_zero _), fun _ => rfl⟩
 | k + 1, hk => by
  obtain ⟨h1, h2⟩ := fnM_iff p b A k (by omega)
  rw [fnM]
  cases e : fnM p b (dA A) (hA A) k with
  | none =>
   rw [e] at h2
   refine ⟨fun o h => (by cases h), fun h => (by cases h), fun h => ?_⟩
   have := h2.2 fun r hr => h r (by omega)
   cases this
  | some o =>
   rw [e] at h2
   have hol := h1 o e
   obtain ⟨hx, hd⟩ := fnX_d p b (A := A) (k := k) (by omega) hol
   rw [Option.bind_some, hx]
   have h2a := h2.1 rfl
   by_cases hn : prefM (lw b k 64) (A.hist k) (lw p k 64) < 0
   ·rw [if_pos hn]
    refine ⟨fun o h => (by cases h), fun h => (by cases h), fun h => ?_⟩
    have := h k (by omega); omega
   ·rw [if_neg hn]
    have hall : ∀ r, r < k + 1 → 0 ≤ prefM (lw b r 64) (A.hist r) (lw p r 64) := by
     intro r hr
     rcases Nat.lt_succ_iff_lt_or_eq.1 hr with h | rfl
     ·exact h2a r h
     ·omega
    by_cases hc : A.hist k = []
    ·rw [if_neg (fun h => (hd.1 h) hc)]
     refine ⟨fun o2 h => ?_, fun _ => hall, fun _ => rfl⟩
     cases h
     rw [dirL_s, if_pos hc, List.append_nil]; exact hol
    ·rw [if_pos (hd.2 hc)]
     refine ⟨fun o2 h => ?_, fun _ => hall, fun _ => rfl⟩
     cases h
     rw [dirL_s, if_neg hc, List.length_append, List.length_append, hol]; rfl
theorem hist_ok {A : Dv} (h : WF A) {r : Nat} (hr : r < A.n) {s : Int × Int} (hs : s ∈ A.hist r) : StOk r (64 * A.n) s := by
 have h6 := h.n6
 obtain ⟨⟨h1, h2, h3⟩, h4, h5⟩ := h.hist r (by omega) s hs
 exact ⟨⟨h1, h2, h3⟩, by omega, h4, h5⟩
theorem imK_w {A : Dv} (h : WF A) {p : List UInt8} (hp : p.length = 64 * A.n) (ds : List Nat) : ∀ a, a ≤ (dA A).length → ∀ r j, j < 8 →
  ((∀ b, b < a → (dA A).getD b default ≠ r) → lw (imK p (hA A) ds a) r 64 j = lw p r 64 j)
  ∧ (∀ b, b < a → (dA A).getD b default = r → lw (imK p (hA A) ds a) r 64 j = kAp (lw p r 64) ((A.hist r).take (ds.getD b default)) j)
 | 0, _, r, j, hj => ⟨fun _ => rfl, fun b hb => absurd hb (Nat.not_lt_zero _)⟩
 | a + 1, ha, r, j, hj => by
  obtain ⟨i1, i2⟩ := imK_w h hp ds a (by omega) r j hj
  have hm := dirL_mem (getD_mem (show a < (dirL A A.n).length from ha))
  have hw := wBs_w (r := (dA A).getD a default) (((hA A).getD a default).take (ds.getD a default)) (imK p (hA A) ds a) (by
   intro s hs
   rw [imK_len, hp]
   rw [hA_at ha] at hs
   exact hist_ok h hm.1 (List.mem_of_mem_take hs)) r j hj
  rw [imK, hw, hA_at ha]
  constructor
  ·intro hb
   rw [if_neg (fun e => hb a (by omega) e.symm)]
   exact i1 fun b hb2 => hb b (by omega)
  ·intro b hb he
   rcases Nat.lt_succ_iff_lt_or_eq.1 hb with hlt | rfl
   ·rw [if_neg (fun e => by have := dirL_inj (A := A) (n := A.n) (show b < _ by show b < (dA A).length; omega) ha (he.trans e); omega)]
    exact i2 b hlt he
   ·rw [if_pos he.symm]
    subst he
    apply kAp_ext
    exact i1 fun c hc e => by have := dirL_inj (A := A) (n := A.n) (show c < _ by show c < (dA A).length; omega) ha e; omega
theorem imA_at {A : Dv} (h : WF A) {i r j : Nat} (hr : r < A.n) (hj : j < 8) : ∃ c, c ≤ (A.hist r).length ∧ (A.hist r ≠ [] → c = (dgT (hA A) i).1.getD (dirL A r).length default) ∧ lw (imA A i) r 64 j = kAp (lw (bA A) r 64) ((A.hist r).take c) j := by
 have hw := imK_w h (p := bA A) (byB_len _ _) (dgT (hA A) i).1 (dA A).length (Nat.le_refl _) r j hj
 unfold imA
 rw [hA_len]
 by_cases hd : A.hist r = []
 ·refine ⟨0, Nat.zero_le _, fun h => absurd hd h, ?_⟩
  rw [List.take_zero]
  exact hw.1 fun b hb e => (e ▸ (dirL_mem (getD_mem (show b < (dirL A A.n).length from hb))).2) hd
 ·obtain ⟨h1, h2⟩ := dirL_at hr hd
  have hdi := dgT_di (hA A) i (dirL A r).length (by rw [hA_len]; exact h1)
  rw [hA_at h1, show (dA A).getD (dirL A r).length default = r from h2] at hdi
  exact ⟨_, hdi, fun _ => rfl, hw.2 _ h1 h2⟩
theorem poss_iff {A : Dv} (h : WF A) (q : List UInt8) : (fnR (bA A) q (dA A) (hA A) A.n).isSome = true ↔ ∃ i, i < prodT (hA A) ∧ imA A i = q := by
 have hb : (bA A).length = 64 * A.n := byB_len _ _
 unfold fnR
 constructor
 ·intro hs
  by_cases hq : q.length = (bA A).length
  ·rw [if_pos hq, (fnM_iff (bA A) q A A.n (Nat.le_refl _)).2] at hs
   have hc : ∀ r, ∃ c, r < A.n → c ≤ (A.hist r).length ∧ eqK (kAp (lw (bA A) r 64) ((A.hist r).take c)) (lw q r 64) := by
    intro r
    by_cases hr : r < A.n
    ·obtain ⟨c, h1, h2⟩ := (prefM_iff _ _ _).1 (hs r hr)
     exact ⟨c, fun _ => ⟨h1, h2⟩⟩
    ·exact ⟨0, fun h => absurd h hr⟩
   obtain ⟨c, hc⟩ : ∃ c : Nat → Nat, ∀ r, r < A.n → c r ≤ (A.hist r).length ∧ eqK (kAp (lw (bA A) r 64) ((A.hist r).take (c r))) (lw q r 64) := ⟨fun r => Classical.choose (hc r), fun r => Classical.choose_spec (hc r)⟩
   have hdg : ∀ a, a < (dA A).length → ((dA A).map c).getD a default = c ((dA A).getD a default) := by
    intro a ha
    rw [List.getD_eq_getElem?_getD, List.getD_eq_getElem?_getD, List.getElem?_map, List.getElem?_eq_getElem ha]; rfl
   obtain ⟨i, hi, he⟩ := dgT_ex (hA A) ((dA A).map c) (by rw [List.length_map, hA_len]) (by
    intro a ha
    rw [hA_len] at ha
    rw [hdg a ha, hA_at ha]
    exact (hc _ (dirL_mem (getD_mem (show a < (dirL A A.n).length from ha))).1).1)
   refine ⟨i, hi, bytes_eq (imA_len A i) (hq.trans hb) fun r hr j hj => ?_⟩
   obtain ⟨c2, h1, h2, h3⟩ := imA_at h (i := i) hr hj
   rw [h3, ← eqK_iff.1 (hc r hr).2 j hj]
   by_cases hd : A.hist r = []
   ·rw [hd, List.take_nil, List.take_nil]
   ·obtain ⟨g1, g2⟩ := dirL_at hr hd
    rw [h2 hd, he, hdg _ g1, show (dA A).getD (dirL A r).length default = r from g2]
  ·rw [if_neg hq] at hs; cases hs
 ·rintro ⟨i, hi, rfl⟩
  rw [if_pos ((imA_len A i).trans hb.symm), (fnM_iff (bA A) (imA A i) A A.n (Nat.le_refl _)).2]
  intro r hr
  rw [prefM_iff]
  by_cases hd : A.hist r = []
  ·refine ⟨0, Nat.zero_le _, eqK_iff.2 fun j hj => ?_⟩
   obtain ⟨c2, h1, h2, h3⟩ := imA_at h (i := i) hr hj
   rw [h3, hd, List.take_nil, List.take_nil]
  ·obtain ⟨c, hc⟩ : ∃ c, c = (dgT (hA A) i).1.getD (dirL A r).length default := ⟨_, rfl⟩
   have hcl : c ≤ (A.hist r).length := by
    obtain ⟨c2, h1, h2, h3⟩ := imA_at h (i := i) hr (show 0 < 8 by decide)
    rw [hc, ← h2 hd]; exact h1
   refine ⟨c, hcl, eqK_iff.2 fun j hj => ?_⟩
   obtain ⟨c2, h1, h2, h3⟩ := imA_at h (i := i) hr hj
   rw [h3, h2 hd, hc]
theorem prodT_pow (H : Hs) (h : ∀ l, l ∈ H → l.length ≤ 12) : prodT H ≤ 13 ^ H.length := by
 induction H with
 | nil => exact Nat.le_refl _
 | cons l H ih =>
  rw [prodT_c, List.length_cons, Nat.pow_succ, Nat.mul_comm (13 ^ _)]
  exact Nat.mul_le_mul (by have := h l (by simp); omega) (ih fun x hx => h x (by simp [hx]))
theorem prodT_12 {A : Dv} {J : Nat → List (Int × Int)} (h : Inv A J 12) (h3 : A.n = 3) : prodT (hA A) ≤ 2197 := by
 have hl : (hA A).length ≤ 3 := by rw [hA_len, ← h3]; exact dirL_len A A.n
 have h1 := prodT_pow (hA A) (by
  intro l hl
  rw [hA_map, List.mem_map] at hl
  obtain ⟨r, hr, rfl⟩ := hl
  have h2 := (dirL_mem hr).1
  have h4 := h.bd r (by omega)
  have h5 := (h.wf.len r (by omega)).1
  omega)
 exact Nat.le_trans h1 (Nat.le_trans (Nat.pow_le_pow_right (by decide) hl) (by decide))
theorem hsOk_12 {A : Dv} {J : Nat → List (Int × Int)} (h : Inv A J 12) : HsOk (bA A) (hA A) := by
 intro l hl
 rw [hA_map, List.mem_map] at hl
 obtain ⟨r, hr, rfl⟩ := hl
 have h2 := (dirL_mem hr).1
 have h6 := h.wf.n6
 have h4 := h.bd r (by omega)
 have h5 := (h.wf.len r (by omega)).1
 refine ⟨by omega, fun s hs => ?_⟩
 obtain ⟨⟨a, b, c⟩, d, e, f⟩ := hist_ok h.wf h2 hs
 exact ⟨c, by rw [byB_len]; exact d, e, f⟩
end Go.Proofs.Ytlldhofcdfejnaa