/- Contracts of functions of this program, and the plain facts that they rest on. No conditions. -/
import Derived.Test.YtjhmcjogkjecaaaD17
set_option linter.unusedSimpArgs false
set_option linter.unusedVariables false
namespace Go.Proofs.Ytjhmcjogkjecaaa
open Go Go.Ab
attribute [local irreducible] callK callF loopQ vstep vskip pickE hideP
/-! SpecApplies: the program's operations are the reference's. -/
/-- A state and the reference's. -/
structure Rel (s : S) (k : Int) (l : List (Int × Int)) : Prop where
  k : s.k = k
  l : contM s = l
theorem num_enum : ∀ (vs : List Int) (i j : Nat), numM i (enumI j vs) = enumI i vs
  | [], _, _ => rfl
  | v :: t, i, j => by simp only [enumI, numM, num_enum t (i + 1) (j + 1)]
theorem enum_snoc (vs : List Int) (v : Int) : enumI 0 vs ++ [((vs.length : Int), v)] = enumI 0 (vs ++ [v]) := by
  rw [enumI_append]; simp [enumI]
theorem num_drop (vs : List Int) : numM 0 ((enumI 0 vs).drop 1) = enumI 0 (vs.drop 1) := by
  cases vs with
  | nil => rfl
  | cons v t => simp only [enumI, List.drop_succ_cons, List.drop_zero, num_enum]
theorem enum_head (vs : List Int) : ((enumI 0 vs).getD 0 default).2 = vs.getD 0 0 := by
  cases vs <;> rfl
theorem reg_same {s : S} (o : O) (h : s.k = 1 ∨ s.k = 4) : contM s = [(0, s.n)] := by simp [contM, h]
structure Same (p : S × R) (q : (Int × List (Int × Int)) × T) : Prop where
  v : p.2.v = q.2.v
  b : p.2.b = q.2.b
  e : p.2.e = q.2.e
  k : p.1.k = q.1.1
  l : contM p.1 = q.1.2
theorem cm2 (n : Int) (l : List (Int × Int)) (v : List Int) : contM ⟨2, n, l, v⟩ = l := by simp [contM]
theorem cm3 (n : Int) (l : List (Int × Int)) (v : List Int) : contM ⟨3, n, l, v⟩ = enumI 0 v := by simp [contM]
theorem cm1 (n : Int) (l : List (Int × Int)) (v : List Int) : contM ⟨1, n, l, v⟩ = [(0, n)] := by simp [contM]
theorem cm4 (n : Int) (l : List (Int × Int)) (v : List Int) : contM ⟨4, n, l, v⟩ = [(0, n)] := by simp [contM]
theorem same_map (n : Int) (ps : List (Int × Int)) (vs : List Int) (o : O) (hs : Pl.srt ps) : Same (mapP' ⟨2, n, ps, vs⟩ o) ((2, (rMap ps ⟨o.c, o.key, o.val, o.old⟩).1), (rMap ps ⟨o.c, o.key, o.val, o.old⟩).2) := by
  have f1 : findM ps o.key = Pl.look ps o.key := by rw [find_pl, Pl.find_look hs]
  have f2 : setM ps o.key o.val = Pl.ins ps o.key o.val := by rw [set_pl, Pl.set_ins hs]
  by_cases e5 : o.c = 5
  · constructor <;> simp [mapP', rMap, e5, f1, f2, cm2]
  by_cases e4 : o.c = 4
  · cases hl : (Pl.look ps o.key).isSome <;> constructor <;> simp [mapP', rMap, e4, f1, f2, cm2, hl]
  by_cases e6 : o.c = 6
  · cases hl : (Pl.look ps o.key).isSome
    · constructor <;> simp [mapP', rMap, e6, f1, f2, cm2, hl]
    · have f3 : withoutM ps o.key = Pl.del ps o.key := by rw [wo_pl, Pl.wo_del hs hl]
      constructor <;> simp [mapP', rMap, e6, f1, f2, f3, cm2, hl]
  by_cases e3 : o.c = 3
  · cases hl : (Pl.look ps o.key).isSome
    · constructor <;> simp [mapP', rMap, e3, f1, f2, cm2, hl]
    · by_cases ho : (Pl.look ps o.key).getD 0 = o.old
      · constructor <;> simp [mapP', rMap, e3, f1, f2, cm2, hl, ho]
      · constructor <;> simp [mapP', rMap, e3, f1, f2, cm2, hl, ho]
  constructor <;> simp [mapP', rMap, e3, e4, e5, e6, f1, f2, cm2]
theorem same_apply {s : S} {b : Nat} (hi : Inv s b) (hn : Neat s) (o : O) : Same (applyM s o) (rApply s.k (contM s) ⟨o.c, o.key, o.val, o.old⟩) := by
  by_cases e2 : s.k = 2
  · have c0 : contM s = s.ps := by simp [contM, e2]
    have a1 : applyM s o = mapP' s o := by rw [← map_pl]; simp [applyM, e2]
    have a2 : rApply s.k (contM s) ⟨o.c, o.key, o.val, o.old⟩ = ((2, (rMap s.ps ⟨o.c, o.key, o.val, o.old⟩).1), (rMap s.ps ⟨o.c, o.key, o.val, o.old⟩).2) := by simp [rApply, e2, c0]
    rw [a1, a2]
    have g := same_map s.n s.ps s.vs o hi.srt
    rw [← e2] at g
    rw [e2] at g
    have ge : (⟨2, s.n, s.ps, s.vs⟩ : S) = s := by rw [← e2]
    first | exact ge ▸ g | (cases s; simp only at e2; subst e2; exact g)
  by_cases e3 : s.k = 3
  · have c0 : contM s = enumI 0 s.vs := by simp [contM, e3]
    have c1 : ∀ l, contM { s with vs := l } = enumI 0 l := fun l => by simp [contM, e3]
    have a1 : applyM s o = queM s o := by simp [applyM, e3]
    have a2 : rApply s.k (contM s) ⟨o.c, o.key, o.val, o.old⟩ = ((3, (rQue (enumI 0 s.vs) ⟨o.c, o.key, o.val, o.old⟩).1), (rQue (enumI 0 s.vs) ⟨o.c, o.key, o.val, o.old⟩).2) := by simp [rApply, e3, c0]
    rw [a1, a2]
    by_cases e7 : o.c = 7
    · constructor <;> simp [queM, rQue, e7, e3, cm3, ← enum_snoc, enumI_length]
    by_cases e8 : o.c = 8
    · have eh := enum_head s.vs
      by_cases hv : s.vs.length = 0
      · have hv2 : s.vs = [] := List.eq_nil_of_length_eq_zero hv
        constructor <;> simp [queM, rQue, e8, e3, c0, hv2, enumI_length, enumI]
      · have hv2 : s.vs ≠ [] := fun e => hv (by simp [e])
        constructor <;> simp only [queM, rQue, e8, e3, cm3, hv, enumI_length, num_drop, enum_head] <;> simp [hv2, cm3, e3, c0]
    constructor <;> simp [queM, rQue, e7, e8, e3, c0]
  by_cases e1 : s.k = 1
  · have c0 : contM s = [(0, s.n)] := by simp [contM, e1]
    by_cases g1 : o.c = 1
    · constructor <;> simp [applyM, regM, rApply, e1, g1, c0]
    by_cases g2 : o.c = 2
    · constructor <;> simp [applyM, regM, rApply, e1, g2, c0, cm1]
    by_cases g3 : o.c = 3
    · by_cases ho : s.n = o.old
      · constructor <;> simp [applyM, regM, rApply, e1, g3, c0, cm1, ho]
      · constructor <;> simp [applyM, regM, rApply, e1, g3, c0, cm1, ho]
    constructor <;> simp [applyM, regM, rApply, e1, g1, g2, g3, c0]
  by_cases e4 : s.k = 4
  · have c0 : contM s = [(0, s.n)] := by simp [contM, e4]
    by_cases g1 : o.c = 1
    · constructor <;> simp [applyM, rApply, e4, g1, c0]
    by_cases g9 : o.c = 9
    · constructor <;> simp [applyM, rApply, e4, g9, c0, cm4]
    constructor <;> simp [applyM, rApply, e4, g1, g9, c0]
  constructor <;> simp [applyM, rApply, e1, e2, e3, e4]
end Go.Proofs.Ytjhmcjogkjecaaa
