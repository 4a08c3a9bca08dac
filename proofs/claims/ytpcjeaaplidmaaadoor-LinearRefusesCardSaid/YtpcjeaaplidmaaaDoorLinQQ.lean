/- Contracts of functions of this program, and the plain facts that they rest on. No conditions. -/
import Derived.Test.YtpcjeaaplidmaaaDoorLinGQ
set_option linter.unusedSimpArgs false
set_option linter.unusedVariables false
namespace Go.Proofs.YtpcjeaaplidmaaaDoor
open Go Go.Ab
attribute [local irreducible] callK callF loopQ vstep vskip pickE hideP
open Go.RowKit
set_option maxRecDepth 100000
def Dig (c : UInt8) : Prop := 48 ≤ c.toNat ∧ c.toNat ≤ 57
def valA : Nat → List UInt8 → Nat
 | a, [] => a
 | a, c :: r => valA (a * 10 + (c.toNat - 48)) r
theorem valA_app : ∀ (l r : List UInt8) (a : Nat), valA a (l ++ r) = valA (valA a l) r
 | [], _, _ => rfl
 | c :: l, r, a => valA_app l r _
theorem digU (d : Nat) (h : d < 10) : (UInt8.ofNat (48 + d)).toNat = 48 + d := by simp; omega
theorem dec_val (u : Nat) : valA 0 (Lib.decDigits u) = u ∧ (∀ c, c ∈ Lib.decDigits u → Dig c) := by
 induction u using Nat.strongRecOn with
 | _ u ih =>
  by_cases h : u < 10
  ·rw [Lib.decDigits, dif_pos h]
   refine ⟨?_, fun c hc => ?_⟩
   ·show 0 * 10 + ((UInt8.ofNat (48 + u)).toNat - 48) = u; rw [digU u h]; omega
   ·rw [List.mem_singleton.1 hc]
    unfold Dig; rw [digU u h]; omega
  ·obtain ⟨i1, i2⟩ := ih (u / 10) (by omega)
   rw [Lib.decDigits, dif_neg h]
   refine ⟨?_, fun c hc => ?_⟩
   ·rw [valA_app, i1]
    show u / 10 * 10 + ((UInt8.ofNat (48 + u % 10)).toNat - 48) = u
    rw [digU _ (by omega)]; omega
   ·rcases List.mem_append.1 hc with hc | hc
    ·exact i2 c hc
    ·rw [List.mem_singleton.1 hc]
     unfold Dig; rw [digU (u % 10) (by omega)]; omega
theorem num_inj {a b : Int} (ha : 0 ≤ a) (hb : 0 ≤ b) (h : numL a = numL b) : a = b := by
 unfold numL at h
 have h1 := (dec_val a.toNat).1
 rw [h, (dec_val b.toNat).1] at h1
 omega
theorem num_no {n : Int} {c : UInt8} (hc : ¬ Dig c) : c ∉ numL n := fun h => hc ((dec_val n.toNat).2 c h)
theorem split_at {x : UInt8} : ∀ {a a' b b' : List UInt8}, x ∉ a → x ∉ a' → a ++ x :: b = a' ++ x :: b' → a = a' ∧ b = b'
 | [], [], b, b', _, _, h => ⟨rfl, by simpa using h⟩
 | [], y :: a', b, b', _, h2, h => by
  simp only [List.nil_append, List.cons_append, List.cons.injEq] at h
  exact absurd (by rw [← h.1]; exact List.mem_cons_self) h2
 | y :: a, [], b, b', h1, _, h => by
  simp only [List.nil_append, List.cons_append, List.cons.injEq] at h
  exact absurd (by rw [h.1]; exact List.mem_cons_self) h1
 | y :: a, z :: a', b, b', h1, h2, h => by
  simp only [List.cons_append, List.cons.injEq] at h
  obtain ⟨i1, i2⟩ := split_at (fun hh => h1 (List.mem_cons_of_mem _ hh)) (fun hh => h2 (List.mem_cons_of_mem _ hh)) h.2
  exact ⟨by rw [h.1, i1], i2⟩
def txF : LP → List UInt8
 | [] => []
 | p :: t => numL p.1 ++ 32 :: (numL p.2 ++ 44 :: txF t)
theorem ptT_front (p : Int × Int) (t : LP) : ∀ i, i ≤ t.length → ptT (p :: t) (i + 1) = numL p.1 ++ 32 :: (numL p.2 ++ 44 :: ptT t i)
 | 0, _ => by simp [ptT]
 | i + 1, h => by
  rw [ptT_s, ptT_front p t i (by omega), ptT_s]
  simp
theorem textP_txF : ∀ l : LP, textP l = txF l
 | [] => rfl
 | p :: t => by
  unfold textP txF
  rw [List.length_cons, ptT_front p t t.length (Nat.le_refl _)]
  show _ ++ 32 :: (_ ++ 44 :: textP t) = _
  rw [textP_txF t]
def NonN (l : LP) : Prop := ∀ p, p ∈ l → 0 ≤ p.1 ∧ 0 ≤ p.2
theorem txF_inj : ∀ {a b : LP}, NonN a → NonN b → txF a = txF b → a = b
 | [], [], _, _, _ => rfl
 | [], q :: b, _, _, h => by simp [txF] at h
 | p :: a, [], _, _, h => by simp [txF] at h
 | p :: a, q :: b, h1, h2, h => by
  simp only [txF] at h
  obtain ⟨e1, e2⟩ := split_at (num_no (by unfold Dig; decide)) (num_no (by unfold Dig; decide)) h
  obtain ⟨e3, e4⟩ := split_at (num_no (by unfold Dig; decide)) (num_no (by unfold Dig; decide)) e2
  have i1 := h1 p List.mem_cons_self
  have i2 := h2 q List.mem_cons_self
  rw [txF_inj (fun r hr => h1 r (List.mem_cons_of_mem _ hr)) (fun r hr => h2 r (List.mem_cons_of_mem _ hr)) e4]
  rw [Prod.ext (num_inj i1.1 i2.1 e1) (num_inj i1.2 i2.2 e3)]
theorem key_inj {s t : Sp.S} {u v : Nat} (hs : NonN (Sp.contM s)) (ht : NonN (Sp.contM t)) (h : keyM s u = keyM t v) : u = v ∧ Sp.contM s = Sp.contM t := by
 unfold keyM at h
 obtain ⟨e1, e2⟩ := split_at (num_no (by unfold Dig; decide)) (num_no (by unfold Dig; decide)) h
 have := num_inj (by omega) (by omega) e1
 rw [textP_txF, textP_txF] at e2
 exact ⟨by omega, txF_inj hs ht e2⟩
def nxt (cl : List Hi.C) (s : Sp.S) (i : Nat) : Sp.S := (Sp.applyM s (opC (cl.getD i default))).1
def can (cl : List Hi.C) (s : Sp.S) (used i : Nat) : Prop := i < cl.length ∧ skipB cl used i = false ∧ stepB cl s i = true
def pathOk (cl : List Hi.C) : Sp.S → Nat → List Nat → Prop
 | _, _, [] => True
 | s, used, i :: o => can cl s used i ∧ pathOk cl (nxt cl s i) (used ||| 2 ^ i) o
def endS (cl : List Hi.C) : Sp.S → List Nat → Sp.S
 | s, [] => s
 | s, i :: o => endS cl (nxt cl s i) o
def endU : Nat → List Nat → Nat
 | u, [] => u
 | u, i :: o => endU (u ||| 2 ^ i) o
def good (cl : List Hi.C) (F : Sp.S → Bool) (s : Sp.S) (used : Nat) (o : List Nat) : Prop := pathOk cl s used o ∧ endN cl &&& endU used o = endN cl ∧ F (endS cl s o) = true
def Dead (cl : List Hi.C) (F : Sp.S → Bool) (s : Sp.S) (used : Nat) : Prop := ∀ o, ¬ good cl F s used o
def Snd (cl : List Hi.C) (F : Sp.S → Bool) (s : Sp.S) (used : Nat) (g : G) (r : Bool × G) : Prop := r.1 = true → ∃ o, r.2.es.take r.2.n = g.es.take g.n ++ o ∧ good cl F s used o
theorem good_tail {cl : List Hi.C} {F : Sp.S → Bool} {s : Sp.S} {used i : Nat} {o : List Nat} (h : good cl F s used (i :: o)) : can cl s used i ∧ good cl F (nxt cl s i) (used ||| 2 ^ i) o := ⟨h.1.1, h.1.2, h.2.1, h.2.2⟩
structure Val (k : Int) (s : Sp.S) : Prop where
 neat : Sp.Neat s
 k : s.k = k
 nn : NonN (Sp.contM s)
 ok : ∃ b, OkS s b
theorem val_eq {k : Int} {s t : Sp.S} {u v : Nat} (hs : Val k s) (ht : Val k t) (h : keyM s u = keyM t v) : s = t ∧ u = v := by
 obtain ⟨e1, e2⟩ := key_inj hs.nn ht.nn h
 exact ⟨(Sp.eq_cont hs.neat ht.neat).2 ⟨by rw [hs.k, ht.k], e2⟩, e1⟩
def Sub (u v : Nat) : Prop := ∀ i, u.testBit i = true → v.testBit i = true
theorem sub_or (u i : Nat) : Sub u (u ||| 2 ^ i) := fun j h => by rw [Nat.testBit_or, h]; rfl
theorem or_bit (u i : Nat) : (u ||| 2 ^ i).testBit i = true := by rw [Nat.testBit_or, Nat.testBit_two_pow]; simp
def Hyp (k : Int) (cl : List Hi.C) (F : Sp.S → Bool) (g : G) (u : Nat) : Prop := ∀ s' u', Val k s' → Sub u u' → keyM s' u' ∈ g.seen → Dead cl F s' u'
def Grow (k : Int) (cl : List Hi.C) (F : Sp.S → Bool) (g g' : G) (u : Nat) : Prop := ∀ s' u', Val k s' → keyM s' u' ∈ g'.seen → keyM s' u' ∈ g.seen ∨ (Sub u u' ∧ Dead cl F s' u')
def Cmp (k : Int) (cl : List Hi.C) (F : Sp.S → Bool) (s : Sp.S) (u : Nat) (g : G) (r : Bool × G) : Prop := r.1 = false → Hyp k cl F g u → Dead cl F s u ∧ Grow k cl F g r.2 u
theorem go_cmp (k : Int) (cl : List Hi.C) (F : Sp.S → Bool) (rec : Sp.S → Nat → G → Bool × G) (s : Sp.S) (used : Nat) (g0 : G) (H0 : Hyp k cl F g0 used) (hrec : ∀ i g, can cl s used i → Cmp k cl F (nxt cl s i) (used ||| 2 ^ i) g (rec (nxt cl s i) (used ||| 2 ^ i) g)) :
  ∀ m i g, i + m = cl.length → (∀ s' u', Val k s' → keyM s' u' ∈ g.seen → keyM s' u' ∈ g0.seen ∨ (s' = s ∧ u' = used) ∨ (Sub used u' ∧ Dead cl F s' u')) → (goM cl rec s used m i g).1 = false →
   (∀ j, i ≤ j → can cl s used j → Dead cl F (nxt cl s j) (used ||| 2 ^ j)) ∧ (∀ s' u', Val k s' → keyM s' u' ∈ (goM cl rec s used m i g).2.seen → keyM s' u' ∈ g0.seen ∨ (s' = s ∧ u' = used) ∨ (Sub used u' ∧ Dead cl F s' u'))
 | 0, i, g, hm, hK, _ => ⟨fun j hj hc => absurd hc.1 (by omega), hK⟩
 | m + 1, i, g, hm, hK, hf => by
  rw [goM] at hf ⊢
  by_cases hs : skipB cl used i = true
  ·rw [if_pos hs] at hf ⊢
   obtain ⟨a1, a2⟩ := go_cmp k cl F rec s used g0 H0 hrec m (i + 1) g (by omega) hK hf
   refine ⟨fun j hj hc => ?_, a2⟩
   rcases Nat.lt_or_ge i j with h4 | h4
   ·exact a1 j h4 hc
   ·obtain rfl : j = i := by omega
    rw [hc.2.1] at hs; cases hs
  ·rw [if_neg hs] at hf ⊢
   by_cases hst : stepB cl s i = false
   ·rw [if_pos hst] at hf ⊢
    obtain ⟨a1, a2⟩ := go_cmp k cl F rec s used g0 H0 hrec m (i + 1) g (by omega) hK hf
    refine ⟨fun j hj hc => ?_, a2⟩
    rcases Nat.lt_or_ge i j with h4 | h4
    ·exact a1 j h4 hc
    ·obtain rfl : j = i := by omega
     rw [hc.2.2] at hst; cases hst
   ·rw [if_neg hst] at hf ⊢
    have hc : can cl s used i := ⟨by omega, by simpa using hs, by simpa using hst⟩
    have hr := hrec i ⟨g.seen, g.es.take g.n ++ [i], g.n + 1, g.acc⟩ hc
    unfold nxt at hr
    generalize rec (Sp.applyM s (opC (cl.getD i default))).1 (used ||| 2 ^ i) ⟨g.seen, g.es.take g.n ++ [i], g.n + 1, g.acc⟩ = r at hr hf ⊢
    by_cases hb : r.1 = true
    ·rw [if_pos hb] at hf; cases hf
    ·rw [if_neg hb] at hf ⊢
     have hH : Hyp k cl F ⟨g.seen, g.es.take g.n ++ [i], g.n + 1, g.acc⟩ (used ||| 2 ^ i) := fun s' u' hv hsub hk => by
      have hsub2 : Sub used u' := fun j hj => hsub j (sub_or used i j hj)
      rcases hK s' u' hv hk with h | ⟨h, h2⟩ | ⟨h, h2⟩
      ·exact H0 s' u' hv hsub2 h
      ·have := hsub i (or_bit used i)
       rw [h2, bit_no hc.2.1] at this; cases this
      ·exact h2
     obtain ⟨d1, d2⟩ := hr (by simpa using hb) hH
     obtain ⟨a1, a2⟩ := go_cmp k cl F rec s used g0 H0 hrec m (i + 1) ⟨r.2.seen, r.2.es, r.2.n - 1, r.2.acc⟩ (by omega) (fun s' u' hv hk => by
      rcases d2 s' u' hv hk with h | ⟨h, h2⟩
      ·exact hK s' u' hv h
      ·exact .inr (.inr ⟨fun j hj => h j (sub_or used i j hj), h2⟩)) hf
     refine ⟨fun j hj hcj => ?_, a2⟩
     rcases Nat.lt_or_ge i j with h4 | h4
     ·exact a1 j h4 hcj
     ·obtain rfl : j = i := by omega
      exact d1
theorem run_cmp (k : Int) (cl : List Hi.C) (F : Sp.S → Bool) (up : Sp.S → List LP → List LP) (hval : ∀ s i, Val k s → i < cl.length → Val k (nxt cl s i)) : ∀ f s used g, Val k s → freeN used cl.length < f → Cmp k cl F s used g (runM cl (fun s a => (F s, up s a)) f s used g)
 | 0, _, _, _, _, h => absurd h (Nat.not_lt_zero _)
 | f + 1, s, used, g, hv, hfr => by
  intro hf hH
  by_cases h0 : keyM s used ∈ g.seen
  ·rw [runM_seen h0] at hf ⊢
   exact ⟨hH s used hv (fun _ h => h) h0, fun s' u' _ hk => .inl hk⟩
  ·rw [runM_go h0] at hf ⊢
   have hrec : ∀ i g', can cl s used i → Cmp k cl F (nxt cl s i) (used ||| 2 ^ i) g' (runM cl (fun s a => (F s, up s a)) f (nxt cl s i) (used ||| 2 ^ i) g') := fun i g' hc =>
    run_cmp k cl F up hval f _ _ g' (hval s i hv hc.1) (by have := free_or used i (bit_no hc.2.1) cl.length hc.1; omega)
   have key : ∀ acc, ((goM cl (runM cl (fun s a => (F s, up s a)) f) s used cl.length 0 ⟨keyM s used :: g.seen, g.es, g.n, acc⟩).1 = false) → ¬ (endN cl &&& used = endN cl ∧ F s = true) → Dead cl F s used ∧ Grow k cl F g (goM cl (runM cl (fun s a => (F s, up s a)) f) s used cl.length 0 ⟨keyM s used :: g.seen, g.es, g.n, acc⟩).2 used := fun acc hg hno => by
    obtain ⟨a1, a2⟩ := go_cmp k cl F _ s used g hH hrec cl.length 0 ⟨keyM s used :: g.seen, g.es, g.n, acc⟩ (by omega) (fun s' u' hv' hk => by
     rcases List.mem_cons.1 hk with h | h
     ·exact .inr (.inl (val_eq hv' hv h))
     ·exact .inl h) hg
    have hd : Dead cl F s used := fun o ho => by
     cases o with
     | nil => exact hno ⟨ho.2.1, ho.2.2⟩
     | cons i o =>
      obtain ⟨b1, b2⟩ := good_tail ho
      exact a1 i (Nat.zero_le _) b1 o b2
    refine ⟨hd, fun s' u' hv' hk => ?_⟩
    rcases a2 s' u' hv' hk with h | ⟨h, h2⟩ | h
    ·exact .inl h
    ·exact .inr ⟨by rw [h2]; exact fun _ h => h, by rw [h, h2]; exact hd⟩
    ·exact .inr h
   by_cases he : endN cl &&& used = endN cl
   ·rw [if_pos he] at hf ⊢
    by_cases hF : F s = true
    ·rw [if_pos hF] at hf; cases hf
    ·rw [if_neg hF] at hf ⊢
     exact key _ hf fun h => hF h.2
   ·rw [if_neg he] at hf ⊢
    exact key _ hf fun h => he h.1
end Go.Proofs.YtpcjeaaplidmaaaDoor