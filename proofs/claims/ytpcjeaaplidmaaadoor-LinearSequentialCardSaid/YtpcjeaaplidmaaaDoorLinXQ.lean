/- Contracts of functions of this program, and the plain facts that they rest on. No conditions. -/
import Derived.Test.YtpcjeaaplidmaaaDoorLinTQ
set_option linter.unusedSimpArgs false
set_option linter.unusedVariables false
namespace Go.Proofs.YtpcjeaaplidmaaaDoor
open Go Go.Ab
attribute [local irreducible] callK callF loopQ vstep vskip pickE hideP
open Go.RowKit
set_option maxRecDepth 100000
/-! Histories in which no two calls overlap. -/
def stN (k : Int) (cl : List Hi.C) : Nat → Sp.S
  | 0 => ini k
  | i + 1 => nxt cl (stN k cl i) i
structure SeqI (k : Int) (x : Hi.H) (s : Sp.S) (r : Bool) : Prop where
  ev : x.ev.length = 2 * x.cl.length
  era : x.era = 0
  b : ∀ t, x.b t = false
  at' : ∀ i, i < x.cl.length → (x.cl.getD i default).bg = 2 * i ∧ (x.cl.getD i default).en = 2 * i + 1 ∧ (x.cl.getD i default).era = 0
  ops : OpsOk k x.cl
  st : s = stN k x.cl x.cl.length
  r : r = true ↔ ∀ i, i < x.cl.length → stepB x.cl (stN k x.cl i) i = true
theorem seq_0 (k : Int) : SeqI k Hi.h0 (ini k) true := ⟨rfl, rfl, fun _ => rfl, fun i h => absurd h (Nat.not_lt_zero _), fun i h => absurd h (Nat.not_lt_zero _), rfl, ⟨fun _ i h => absurd h (Nat.not_lt_zero _), fun _ => rfl⟩⟩
theorem nxt_app {cl : List Hi.C} {c : Hi.C} {s : Sp.S} {i : Nat} (h : i < cl.length) : nxt (cl ++ [c]) s i = nxt cl s i := by
  unfold nxt; rw [Hi.gA_lt _ _ _ _ h]
theorem stN_app {k : Int} {cl : List Hi.C} {c : Hi.C} : ∀ i, i ≤ cl.length → stN k (cl ++ [c]) i = stN k cl i
  | 0, _ => rfl
  | i + 1, h => by rw [stN, stN, stN_app i (by omega), nxt_app (by omega)]
theorem stepB_app {cl : List Hi.C} {c : Hi.C} {s : Sp.S} {i : Nat} (h : i < cl.length) : stepB (cl ++ [c]) s i = stepB cl s i := by
  unfold stepB; rw [Hi.gA_lt _ _ _ _ h]
theorem set_last {α : Type} (l : List α) (c d : α) : (l ++ [c]).set l.length d = l ++ [d] := by simp
def addC (x : Hi.H) (th k key val old rv : Int) (ok : Bool) (code : Int) : Hi.H := Hi.retH (Hi.invH x th k key val old) x.cl.length rv ok code
theorem addC_cl (x : Hi.H) (th k key val old rv : Int) (ok : Bool) (code : Int) : (addC x th k key val old rv ok code).cl = x.cl ++ [Hi.endC (Hi.newC th k key val old x.ev.length x.era) (x.ev.length + 1) rv ok code] := by
  unfold addC Hi.retH Hi.invH
  dsimp only
  rw [Int.toNat_natCast, set_last, Hi.gA_eq, List.length_append]
  simp
theorem seq_add {k : Int} {x : Hi.H} {s : Sp.S} {r : Bool} (h : SeqI k x s r) {th : Int} {o : Sp.O} {rv : Int} {ok : Bool} {code : Int} (ht : 0 ≤ th) (hk : knowsM k o.c = true) (ho : RngO o) :
    SeqI k (addC x th o.c o.key o.val o.old rv ok code) (Sp.applyM s o).1 (r && decide (eqR (Sp.applyM s o).2 ⟨rv, ok, code⟩)) := by
  have hcl := addC_cl x th o.c o.key o.val o.old rv ok code
  have hlen : (addC x th o.c o.key o.val o.old rv ok code).cl.length = x.cl.length + 1 := by rw [hcl]; simp
  obtain ⟨h1, h2, h3, h4, h5, h6, h7⟩ := h
  have hop : opC (Hi.endC (Hi.newC th o.c o.key o.val o.old x.ev.length x.era) (x.ev.length + 1) rv ok code) = o := rfl
  have hres : resC (Hi.endC (Hi.newC th o.c o.key o.val o.old x.ev.length x.era) (x.ev.length + 1) rv ok code) = ⟨rv, ok, code⟩ := rfl
  refine ⟨?_, h2, fun t => ?_, fun i hi => ?_, fun i hi => ?_, ?_, ?_⟩
  · rw [hlen]; unfold addC Hi.retH Hi.invH; simp; omega
  · unfold addC Hi.retH Hi.invH
    dsimp only
    rw [Int.toNat_natCast, Hi.gA_eq]
    unfold Hi.newC
    dsimp only
    split
    · rfl
    · exact h3 t
  · rw [hcl]
    rw [hlen] at hi
    rcases Nat.lt_or_ge i x.cl.length with g | g
    · rw [Hi.gA_lt _ _ _ _ g]; exact h4 i g
    · obtain rfl : i = x.cl.length := by omega
      rw [Hi.gA_eq]
      refine ⟨?_, ?_, h2⟩
      · show (x.ev.length : Int) = _; omega
      · show (x.ev.length : Int) + 1 = _; omega
  · rw [hcl]
    rw [hlen] at hi
    rcases Nat.lt_or_ge i x.cl.length with g | g
    · rw [Hi.gA_lt _ _ _ _ g]; exact h5 i g
    · obtain rfl : i = x.cl.length := by omega
      rw [Hi.gA_eq]
      exact ⟨hk, ho⟩
  · rw [hlen, stN, hcl, stN_app _ (Nat.le_refl _), ← h6]
    unfold nxt; rw [Hi.gA_eq, hop]
  · rw [hlen, Bool.and_eq_true, decide_eq_true_iff, hcl]
    have hlast : stepB (x.cl ++ [Hi.endC (Hi.newC th o.c o.key o.val o.old x.ev.length x.era) (x.ev.length + 1) rv ok code]) s x.cl.length = true ↔ eqR (Sp.applyM s o).2 ⟨rv, ok, code⟩ := by
      unfold stepB
      rw [Hi.gA_eq, hop, hres, decide_eq_true_iff]
      exact ⟨fun h => h (by show (0 : Int) ≤ (x.ev.length : Int) + 1; omega), fun h _ => h⟩
    constructor
    · rintro ⟨g1, g2⟩ i hi
      rcases Nat.lt_or_ge i x.cl.length with g | g
      · rw [stN_app _ (by omega), stepB_app g]; exact h7.1 g1 i g
      · obtain rfl : i = x.cl.length := by omega
        rw [stN_app _ (Nat.le_refl _), ← h6]
        exact hlast.2 g2
    · intro g
      refine ⟨h7.2 fun i hi => ?_, ?_⟩
      · have := g i (by omega)
        rw [stN_app _ (by omega), stepB_app hi] at this; exact this
      · have := g x.cl.length (by omega)
        rw [stN_app _ (Nat.le_refl _), ← h6] at this
        exact hlast.1 this
theorem endS_N {k : Int} {cl : List Hi.C} : ∀ n, endS cl (ini k) (List.range n) = stN k cl n
  | 0 => rfl
  | n + 1 => by rw [List.range_succ, endS_app, endS_N n]; rfl
theorem seq_bef {k : Int} {x : Hi.H} {s : Sp.S} {r : Bool} (h : SeqI k x s r) {i j : Nat} (hi : i < x.cl.length) (hj : j < x.cl.length) : Hi.befM x.cl (i : Int) (j : Int) ↔ i < j := by
  have h1 := h.at' i hi
  have h2 := h.at' j hj
  unfold Hi.befM
  simp only [Int.toNat_natCast]
  omega
theorem seq_path {k : Int} {x : Hi.H} {s : Sp.S} {r : Bool} (h : SeqI k x s r) {F : Sp.S → Bool} : ∀ (o : List Nat) (t : Sp.S) (m j : Nat), j ≤ x.cl.length → (∀ a, a < x.cl.length → (m.testBit a = true ↔ a < j)) → good x.cl F t m o → o = List.range' j (x.cl.length - j)
  | [], t, m, j, hj, hm, hg => by
    have : x.cl.length - j = 0 := by
      rcases Nat.lt_or_ge j x.cl.length with g | g
      · have := end_sub.1 hg.2.1 j g (by have := (h.at' j g).2.1; omega)
        have := (hm j g).1 this; omega
      · omega
    rw [this]; rfl
  | i :: o, t, m, j, hj, hm, hg => by
    obtain ⟨⟨c1, c2, c3⟩, hg2⟩ := good_tail hg
    have c4 := (skip_false.1 c2).1
    have hij : j ≤ i := by
      rcases Nat.lt_or_ge i j with g | g
      · rw [(hm i c1).2 g] at c4; cases c4
      · exact g
    have hij2 : i = j := by
      refine Classical.byContradiction fun hne => ?_
      have hjl : j < x.cl.length := by omega
      have he := end_sub.1 hg2.2.1 j hjl (by have := (h.at' j hjl).2.1; omega)
      have hmj : m.testBit j = false := by
        cases hb : m.testBit j with
        | false => rfl
        | true => have := (hm j hjl).1 hb; omega
      rw [endU_bit, Nat.testBit_or, Nat.testBit_two_pow, hmj, decide_eq_false hne, Bool.false_or, Bool.false_or, decide_eq_true_iff] at he
      exact path_not o _ _ hg2.1 he i c1 (or_bit m i) ((seq_bef h hjl c1).2 (by omega))
    subst hij2
    have ih := seq_path h o _ _ (i + 1) (by omega) (fun a ha => by
      rw [Nat.testBit_or, Nat.testBit_two_pow]
      by_cases e : i = a
      · subst e; simp
      · rw [decide_eq_false e, Bool.or_false, hm a ha]; omega) hg2
    rw [ih, show x.cl.length - i = (x.cl.length - (i + 1)) + 1 by omega, List.range'_succ]
theorem seq_good {k : Int} {x : Hi.H} {s : Sp.S} {r : Bool} (h : SeqI k x s r) (hr : r = true) : good x.cl (fun t => decide (Sp.contM t = Sp.contM s)) (ini k) 0 (List.range x.cl.length) := by
  have hs := h.r.1 hr
  refine ⟨path_idx _ _ _ fun i hi => ?_, ?_, ?_⟩
  · rw [List.length_range] at hi
    have ht : (List.range x.cl.length).take i = List.range i := by rw [List.take_range, Nat.min_eq_left (by omega)]
    have hg : (List.range x.cl.length).getD i 0 = i := by rw [List.getD_eq_getElem?_getD, List.getElem?_range hi]; rfl
    rw [ht, hg, endS_N]
    refine ⟨hi, skip_false.2 ⟨?_, fun a ha hu hb => ?_⟩, hs i hi⟩
    · rw [endU_bit, Nat.zero_testBit, Bool.false_or, decide_eq_false_iff_not, List.mem_range]; omega
    · rw [endU_bit, Nat.zero_testBit, Bool.false_or, decide_eq_true_iff, List.mem_range] at hu
      have := (seq_bef h hi ha).1 hb; omega
  · refine end_sub.2 fun a ha _ => ?_
    rw [endU_bit, Nat.zero_testBit, Bool.false_or, decide_eq_true_iff, List.mem_range]; exact ha
  · show decide (Sp.contM (endS x.cl (ini k) (List.range x.cl.length)) = Sp.contM s) = true
    rw [endS_N, ← h.st]
    exact decide_eq_true rfl
/-- What Check says of such a history. -/
theorem seq_check {k : Int} {x : Hi.H} {s : Sp.S} {r : Bool} (h : SeqI k x s r) (hk : Sp.newK k = k) (hl : x.cl.length ≤ 10) : (checkR k x.cl (Sp.contM s)).1 = r ∧ ((checkR k x.cl (Sp.contM s)).1 = true → (checkR k x.cl (Sp.contM s)).2.es.take (checkR k x.cl (Sp.contM s)).2.n = List.range x.cl.length) := by
  have ho : (checkR k x.cl (Sp.contM s)).1 = true → (checkR k x.cl (Sp.contM s)).2.es.take (checkR k x.cl (Sp.contM s)).2.n = List.range x.cl.length ∧ r = true := fun hc => by
    have hg := check_snd hc
    have e := seq_path h _ _ _ 0 (Nat.zero_le _) (fun a _ => by rw [Nat.zero_testBit]; simp) hg
    rw [Nat.sub_zero, ← List.range_eq_range'] at e
    refine ⟨e, h.r.2 fun i hi => ?_⟩
    rw [e] at hg
    have := idx_path _ _ _ hg.1 i (by rw [List.length_range]; exact hi)
    have ht : (List.range x.cl.length).take i = List.range i := by rw [List.take_range, Nat.min_eq_left (by omega)]
    have hgi : (List.range x.cl.length).getD i 0 = i := by rw [List.getD_eq_getElem?_getD, List.getElem?_range hi]; rfl
    rw [ht, hgi, endS_N] at this
    exact this.2.2
  refine ⟨?_, fun hc => (ho hc).1⟩
  cases hc : (checkR k x.cl (Sp.contM s)).1 with
  | true => exact (ho hc).2.symm
  | false =>
    cases r with
    | false => rfl
    | true => exact absurd (seq_good h rfl) (check_cmp hk hl (fun i hi => (h.ops i hi).2) hc _)
end Go.Proofs.YtpcjeaaplidmaaaDoor
