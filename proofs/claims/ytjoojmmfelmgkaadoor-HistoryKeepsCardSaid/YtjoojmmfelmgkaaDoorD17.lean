/- Contracts of functions of this program, and the plain facts that they rest on. No conditions. -/
import Derived.Test.YtjoojmmfelmgkaaDoorD16
set_option linter.unusedSimpArgs false
set_option linter.unusedVariables false
namespace Go.Proofs.YtjoojmmfelmgkaaDoor
open Go Go.Ab
attribute [local irreducible] callK callF loopQ vstep vskip pickE hideP
set_option maxRecDepth 100000
def lineM (x : H) (s : S) : Option (List UInt8) :=
  if kdM s.kd = 0 ∨ kdM s.kd = 1 then (if okI x s then some (beginT (newC s.th (s.k % 256) s.key s.val s.old x.ev.length x.era)) else none)
  else if kdM s.kd = 2 then (if pendM x.cl s.call ∧ (x.cl.getD s.call.toNat default).era = x.era then some (endT s.call s.rv s.ok s.code) else none)
  else some crashT
def lineS : Option (List UInt8) → List UInt8
  | none => []
  | some l => l ++ [10]
theorem do_none {x : H} {s : S} (h : lineM x s = none) : doH x s = x := by
  unfold lineM at h
  unfold doH
  split at h
  · rename_i h1
    rw [if_pos h1]
    split at h
    · cases h
    · rename_i h2; rw [if_neg h2]
  · rename_i h1
    rw [if_neg h1]
    split at h
    · rename_i h2
      rw [if_pos h2]
      split at h
      · cases h
      · rename_i h3; rw [if_neg h3]
    · cases h
theorem evsT_congr {x y : H} : ∀ n, (∀ i, i < n → evT y (y.ev.getD i default) = evT x (x.ev.getD i default)) → evsT y n = evsT x n
  | 0, _ => rfl
  | n + 1, h => by rw [evsT, evsT, evsT_congr n (fun i hi => h i (by omega)), h n (by omega)]
theorem evT_1 {x : H} {e : Int × Int} {j : Nat} (h : e = (1, (j : Int))) : evT x e = beginT (gc x j) := by subst h; rfl
theorem evT_2 {x : H} {e : Int × Int} {j : Nat} (h : e = (2, (j : Int))) : evT x e = endT (j : Int) (gc x j).rv (gc x j).ok (gc x j).code := by subst h; rfl
theorem evT_3 {x : H} {e : Int × Int} (h : e = (3, 0)) : evT x e = crashT := by subst h; rfl
/-- What a step adds to the text. -/
theorem text_do {x : H} {s : S} (hI : Inv x) : textM (doH x s) = textM x ++ lineS (lineM x s) := by
  unfold doH lineM
  split
  · split
    · rename_i h1 h2
      generalize hy : invH x s.th (s.k % 256) s.key s.val s.old = y
      have hev : ∀ i, i < x.ev.length → y.ev.getD i default = x.ev.getD i default := fun i hi => by subst hy; exact gA_lt _ _ _ _ hi
      have hg : ∀ j, j < x.cl.length → gc y j = gc x j := fun j hj => by subst hy; exact gA_lt _ _ _ _ hj
      have hn : y.ev.length = x.ev.length + 1 := by subst hy; simp [invH]
      have he : y.ev.getD x.ev.length default = (1, (x.cl.length : Int)) := by subst hy; exact gA_eq _ _ _
      have hc : gc y x.cl.length = newC s.th (s.k % 256) s.key s.val s.old x.ev.length x.era := by subst hy; exact gA_eq _ _ _
      unfold textM
      rw [hn, evsT, evT_1 he, hc, evsT_congr (x := x) x.ev.length (fun i hi => ?_)]
      · rfl
      · rw [hev i hi]
        rcases hI.evs i hi with ⟨j, g1, g2, _⟩ | ⟨j, g1, g2, _⟩ | ⟨g1, _⟩
        · rw [evT_1 g2, evT_1 g2, hg j g1]
        · rw [evT_2 g2, evT_2 g2, hg j g1]
        · rw [evT_3 g1, evT_3 g1]
    · simp [lineS]
  · split
    · split
      · rename_i h1 h2 h3
        have hp := h3.1
        unfold pendM at hp
        obtain ⟨j0, hj0⟩ := Int.eq_ofNat_of_zero_le hp.1.1
        generalize hy : retH x s.call s.rv s.ok s.code = y
        rw [hj0] at hp hy
        simp only [Int.toNat_natCast] at hp
        have hjl : j0 < x.cl.length := by omega
        have hp2 : (gc x j0).en < 0 := hp.2
        have hev : ∀ i, i < x.ev.length → y.ev.getD i default = x.ev.getD i default := fun i hi => by subst hy; exact gA_lt _ _ _ _ hi
        have hg : ∀ j, j ≠ j0 → gc y j = gc x j := fun j hj => by subst hy; exact gS_ne _ _ _ _ _ hj
        have hg0 : gc y j0 = endC (gc x j0) x.ev.length s.rv s.ok s.code := by subst hy; exact getD_set_self _ _ _ _ hjl
        have hn : y.ev.length = x.ev.length + 1 := by subst hy; simp [retH]
        have he : y.ev.getD x.ev.length default = (2, (j0 : Int)) := by subst hy; exact gA_eq _ _ _
        unfold textM
        rw [hn, evsT, evT_2 he, hg0, evsT_congr (x := x) x.ev.length (fun i hi => ?_)]
        · rw [hj0]; rfl
        · rw [hev i hi]
          rcases hI.evs i hi with ⟨j, g1, g2, _⟩ | ⟨j, g1, g2, g3, _⟩ | ⟨g1, _⟩
          · rw [evT_1 g2, evT_1 g2]
            by_cases hj : j = j0
            · subst hj; rw [hg0]; rfl
            · rw [hg j hj]
          · have hj : j ≠ j0 := fun e => by subst e; omega
            rw [evT_2 g2, evT_2 g2, hg j hj]
          · rw [evT_3 g1, evT_3 g1]
      · simp [lineS]
    · have hev : ∀ i, i < x.ev.length → (crashH x).ev.getD i default = x.ev.getD i default := fun i hi => gA_lt _ _ _ _ hi
      have he : (crashH x).ev.getD x.ev.length default = (3, 0) := gA_eq _ _ _
      have hn : (crashH x).ev.length = x.ev.length + 1 := by simp [crashH]
      unfold textM
      rw [hn, evsT, evT_3 he, evsT_congr (x := x) x.ev.length (fun i hi => by rw [hev i hi]; rfl)]
      rfl
/-- The ranges of the values that a history holds. -/
def RngV (c : C) : Prop := (0 ≤ c.key ∧ c.key ≤ 18446744073709551615) ∧ (0 ≤ c.val ∧ c.val ≤ 18446744073709551615) ∧ (0 ≤ c.old ∧ c.old ≤ 18446744073709551615) ∧ (0 ≤ c.rv ∧ c.rv ≤ 18446744073709551615) ∧ (-9223372036854775808 ≤ c.code ∧ c.code ≤ 9223372036854775807)
theorem rng_do {x : H} {s : S} (h : ∀ j, j < x.cl.length → RngV (gc x j)) (hs : RngS s) : ∀ j, j < (doH x s).cl.length → RngV (gc (doH x s) j) := by
  unfold RngS at hs
  unfold doH
  split
  · split
    · intro j hj
      by_cases hj2 : j < x.cl.length
      · rw [show gc (invH x s.th (s.k % 256) s.key s.val s.old) j = gc x j from gA_lt _ _ _ _ hj2]; exact h j hj2
      · have : j = x.cl.length := by simp [invH] at hj; omega
        subst this
        rw [show gc (invH x s.th (s.k % 256) s.key s.val s.old) x.cl.length = newC s.th (s.k % 256) s.key s.val s.old x.ev.length x.era from gA_eq _ _ _]
        unfold RngV newC; dsimp only; omega
    · exact h
  · split
    · split
      · rename_i h1 h2 h3
        intro j hj
        have hj' : j < x.cl.length := by simpa [retH] using hj
        by_cases hjj : j = s.call.toNat
        · subst hjj
          rw [show gc (retH x s.call s.rv s.ok s.code) s.call.toNat = endC (gc x s.call.toNat) x.ev.length s.rv s.ok s.code from getD_set_self _ _ _ _ hj']
          have := h _ hj'
          unfold RngV endC at *; dsimp only; omega
        · rw [show gc (retH x s.call s.rv s.ok s.code) j = gc x j from gS_ne _ _ _ _ _ hjj]; exact h j hj'
      · exact h
    · exact h
theorem getD_rng {l : List S} (hr : ∀ s, s ∈ l → RngS s) (i : Nat) : RngS (l.getD i default) := by
  by_cases h : i < l.length
  · rw [getD_get _ _ _ h]; exact hr _ (List.getElem_mem h)
  · rw [List.getD_eq_getElem?_getD, List.getElem?_eq_none (by omega)]; unfold RngS; decide
theorem play_rng {l : List S} (hr : ∀ s, s ∈ l → RngS s) : ∀ i j, j < (playH l i).cl.length → RngV (gc (playH l i) j)
  | 0, j, hj => by simp [playH, h0] at hj
  | i + 1, j, hj => rng_do (play_rng hr i) (getD_rng hr i) j hj
theorem rng_of {x : H} (hI : Inv x) (h : ∀ j, j < x.cl.length → RngV (gc x j)) : ∀ j, j < x.cl.length → RngI (gc x j) := fun j hj => by
  have g1 := hI.each j hj
  have g2 := h j hj
  unfold EachI at g1; unfold RngV at g2; unfold RngI; omega
def restM (l : List S) : Nat → Nat → List UInt8
  | _, 0 => []
  | j, m + 1 => lineS (lineM (playH l j) (l.getD j default)) ++ restM l (j + 1) m
theorem text_rest (l : List S) : ∀ m j, textM (playH l (j + m)) = textM (playH l j) ++ restM l j m
  | 0, j => by simp [restM]
  | m + 1, j => by
    have := text_rest l m (j + 1)
    rw [show j + (m + 1) = j + 1 + m by omega, this, play_s, text_do (play_inv l j), restM, List.append_assoc]
theorem text_all (l : List S) (n : Nat) : textM (playH l n) = restM l 0 n := by
  have := text_rest l n 0
  rw [Nat.zero_add] at this
  rw [this]; rfl
/-- The next step that writes a line. -/
theorem skip (l : List S) : ∀ m j, (restM l j m = [] ∧ playH l (j + m) = playH l j) ∨ ∃ j' m' line, j ≤ j' ∧ j' + (m' + 1) = j + m ∧ playH l j = playH l j' ∧ lineM (playH l j') (l.getD j' default) = some line ∧ restM l j m = line ++ 10 :: restM l (j' + 1) m'
  | 0, j => .inl ⟨rfl, rfl⟩
  | m + 1, j => by
    cases hL : lineM (playH l j) (l.getD j default) with
    | some line => exact .inr ⟨j, m, line, Nat.le_refl _, rfl, rfl, hL, by rw [restM, hL]; simp [lineS]⟩
    | none =>
      have hp : playH l (j + 1) = playH l j := by rw [play_s, do_none hL]
      have hrest : restM l j (m + 1) = restM l (j + 1) m := by rw [restM, hL]; rfl
      rcases skip l m (j + 1) with ⟨e1, e2⟩ | ⟨j', m', line, h1, h2, h3, h4, h5⟩
      · exact .inl ⟨by rw [hrest, e1], by rw [show j + (m + 1) = j + 1 + m by omega, e2, hp]⟩
      · exact .inr ⟨j', m', line, by omega, by omega, by rw [← hp, h3], h4, by rw [hrest, h5]⟩
theorem line_nl {x : H} {s : S} {line : List UInt8} (h : lineM x s = some line) : (10 : UInt8) ∉ line := by
  have hj : ∀ ws : List (List UInt8), (∀ w, w ∈ ws → (10 : UInt8) ∉ w) → (10 : UInt8) ∉ joinL 32 ws := by
    intro ws
    induction ws with
    | nil => intro _; simp [joinL]
    | cons w ws ih =>
      intro hw
      cases ws with
      | nil => simpa [joinL] using hw w (by simp)
      | cons v ws =>
        have := ih (fun u hu => hw u (List.mem_cons_of_mem _ hu))
        have h2 := hw w (by simp)
        simp only [joinL, List.mem_append, List.mem_cons, not_or]
        exact ⟨h2, by decide, this⟩
  unfold lineM at h
  split at h
  · split at h
    · rename_i h1 h2
      cases h
      rw [beginT_j]
      refine hj _ fun w hw => ?_
      simp only [wsB, List.mem_cons, List.not_mem_nil, or_false] at hw
      have hk : 1 ≤ s.k % 256 ∧ s.k % 256 ≤ 9 := ⟨h2.2.2.1, h2.2.2.2.1⟩
      rcases hw with rfl | rfl | rfl | rfl | rfl | rfl
      · decide
      · exact num_ns _ _ (.inr rfl)
      · exact kind_ns _ hk _ (.inr rfl)
      · exact num_ns _ _ (.inr rfl)
      · exact num_ns _ _ (.inr rfl)
      · exact num_ns _ _ (.inr rfl)
    · cases h
  · split at h
    · split at h
      · cases h
        rw [endT_j]
        refine hj _ fun w hw => ?_
        simp only [wsE, List.mem_cons, List.not_mem_nil, or_false] at hw
        rcases hw with rfl | rfl | rfl | rfl | rfl
        · decide
        · exact num_ns _ _ (.inr rfl)
        · exact num_ns _ _ (.inr rfl)
        · exact bool_ns _ _ (.inr rfl)
        · exact num_ns _ _ (.inr rfl)
      · cases h
    · cases h; decide
theorem a39 (x : H) (s : S) (line : List UInt8) (hI : Inv x) (hs : RngS s) (hL : lineM x s = some line) (hn : x.ev.length ≤ 100000) (hl : x.cl.length ≤ 100000) (he : x.era ≤ 100000) :
    line.length ≤ 200 ∧ ACalls Tryd.prog 39 [.loc 0 0, .p (.v (.string (bs line)))] [oH x 1 2, .arr 2 (x.ev.map eE), .arr 11 (x.cl.map eC)] (.p (.v (.int .i64 0)))
      [oH (doH x s) 3 4, .dead, .dead, .arr 2 ((doH x s).ev.map eE), .arr 11 ((doH x s).cl.map eC)] := by
  unfold RngS at hs
  unfold lineM at hL
  unfold doH
  split at hL
  · rename_i h1
    rw [if_pos h1]
    split at hL
    · rename_i h2
      rw [if_pos h2]
      cases hL
      have hR : RngI (newC s.th (s.k % 256) s.key s.val s.old x.ev.length x.era) := by
        unfold okI at h2; unfold RngI newC; dsimp only; omega
      have hlen := beginT_len hR
      refine ⟨hlen, ?_⟩
      rw [beginT_j] at hlen ⊢
      exact a39b x s.th (s.k % 256) s.key s.val s.old ⟨h2.1, h2.2.1⟩ ⟨h2.2.2.1, h2.2.2.2.1⟩ hs.2.2.2.2.1 hs.2.2.2.2.2.1 hs.2.2.2.2.2.2.1 (by rw [hI.b s.th h2.1 h2.2.1]; exact h2.2.2.2.2) hlen hn hl
    · cases hL
  · rename_i h1
    rw [if_neg h1]
    split at hL
    · rename_i h2
      rw [if_pos h2]
      split at hL
      · rename_i h3
        rw [if_pos h3]
        cases hL
        have hp := h3.1
        unfold pendM at hp
        have hlen := endT_len (i := s.call) (rv := s.rv) (ok := s.ok) (code := s.code) (by omega) hs.2.2.2.2.2.2.2.1 hs.2.2.2.2.2.2.2.2
        refine ⟨hlen, ?_⟩
        rw [endT_j] at hlen ⊢
        exact a39e x s.call s.rv s.ok s.code (by omega) hs.2.2.2.2.2.2.2.1 hs.2.2.2.2.2.2.2.2 h3.1 h3.2 (hI.each _ (by omega)).1 hlen hn hl
      · cases hL
    · rename_i h2
      rw [if_neg h2]
      cases hL
      exact ⟨by decide, a39c x ⟨hI.era, he⟩ hn hl⟩
end Go.Proofs.YtjoojmmfelmgkaaDoor
