/- Contracts of functions of this program, and the plain facts that they rest on. No conditions. -/
import Derived.Test.YtegekpjkbedngaaGreatEnv2
import Derived.Test.YtegekpjkbedngaaGreatAc4
set_option linter.unusedSectionVars false
set_option linter.unusedSimpArgs false
set_option linter.unusedVariables false
namespace Go.Proofs.YtegekpjkbedngaaGreat
open Go Go.Ab
attribute [local irreducible] callK callF loopQ vstep vskip pickE hideP
set_option maxRecDepth 100000
def eU (x : Int) : PV := .v (.int .u64 x)
def eWr (x : Int × Int) : PV := .agg [.v (.int .u64 x.1), .v (.int .u64 x.2)]
def upd {α : Type} (f : Nat → α) (r : Nat) (x : α) : Nat → α := fun i => if i = r then x else f i
theorem lt8 {k : Nat} (h : k < 8) : k = 0 ∨ k = 1 ∨ k = 2 ∨ k = 3 ∨ k = 4 ∨ k = 5 ∨ k = 6 ∨ k = 7 := by omega
theorem lt6 {k : Nat} (h : k < 8) : k = 0 ∨ k = 1 ∨ k = 2 ∨ k = 3 ∨ k = 4 ∨ k = 5 ∨ k = 6 ∨ k = 7 := by omega
@[go_sem high] theorem nthT4 {a0 a1 a2 a3 : Option Ob} {e : Nat → Int} {k : Nat} {l : List (Option Ob)} (hk : k < 8) : nth (a0 :: a1 :: a2 :: a3 :: some (.var [.loc 0 0, .p (.v (.int .i64 0)), .p (.v (.int .i64 (e 0))), .mref 20]) :: some (.var [.loc 0 0, .p (.v (.int .i64 1)), .p (.v (.int .i64 (e 1))), .mref 21]) :: some (.var [.loc 0 0, .p (.v (.int .i64 2)), .p (.v (.int .i64 (e 2))), .mref 22]) :: some (.var [.loc 0 0, .p (.v (.int .i64 3)), .p (.v (.int .i64 (e 3))), .mref 23]) :: some (.var [.loc 0 0, .p (.v (.int .i64 4)), .p (.v (.int .i64 (e 4))), .mref 24]) :: some (.var [.loc 0 0, .p (.v (.int .i64 5)), .p (.v (.int .i64 (e 5))), .mref 25]) :: some (.var [.loc 0 0, .p (.v (.int .i64 6)), .p (.v (.int .i64 (e 6))), .mref 26]) :: some (.var [.loc 0 0, .p (.v (.int .i64 7)), .p (.v (.int .i64 (e 7))), .mref 27]) :: l) (4 + k) = some (some (.var [.loc 0 0, .p (.v (.int .i64 k)), .p (.v (.int .i64 (e k))), .mref (20 + k)])) := by
 rcases lt8 hk with rfl | rfl | rfl | rfl | rfl | rfl | rfl | rfl <;> rfl
@[go_sem high] theorem setT4 {a0 a1 a2 a3 : Option Ob} {e : Nat → Int} {k : Nat} {x : Int} {l : List (Option Ob)} (hk : k < 8) : setL (a0 :: a1 :: a2 :: a3 :: some (.var [.loc 0 0, .p (.v (.int .i64 0)), .p (.v (.int .i64 (e 0))), .mref 20]) :: some (.var [.loc 0 0, .p (.v (.int .i64 1)), .p (.v (.int .i64 (e 1))), .mref 21]) :: some (.var [.loc 0 0, .p (.v (.int .i64 2)), .p (.v (.int .i64 (e 2))), .mref 22]) :: some (.var [.loc 0 0, .p (.v (.int .i64 3)), .p (.v (.int .i64 (e 3))), .mref 23]) :: some (.var [.loc 0 0, .p (.v (.int .i64 4)), .p (.v (.int .i64 (e 4))), .mref 24]) :: some (.var [.loc 0 0, .p (.v (.int .i64 5)), .p (.v (.int .i64 (e 5))), .mref 25]) :: some (.var [.loc 0 0, .p (.v (.int .i64 6)), .p (.v (.int .i64 (e 6))), .mref 26]) :: some (.var [.loc 0 0, .p (.v (.int .i64 7)), .p (.v (.int .i64 (e 7))), .mref 27]) :: l) (4 + k) (some (.var [.loc 0 0, .p (.v (.int .i64 k)), .p (.v (.int .i64 x)), .mref (20 + k)])) = a0 :: a1 :: a2 :: a3 :: some (.var [.loc 0 0, .p (.v (.int .i64 0)), .p (.v (.int .i64 (upd e k x 0))), .mref 20]) :: some (.var [.loc 0 0, .p (.v (.int .i64 1)), .p (.v (.int .i64 (upd e k x 1))), .mref 21]) :: some (.var [.loc 0 0, .p (.v (.int .i64 2)), .p (.v (.int .i64 (upd e k x 2))), .mref 22]) :: some (.var [.loc 0 0, .p (.v (.int .i64 3)), .p (.v (.int .i64 (upd e k x 3))), .mref 23]) :: some (.var [.loc 0 0, .p (.v (.int .i64 4)), .p (.v (.int .i64 (upd e k x 4))), .mref 24]) :: some (.var [.loc 0 0, .p (.v (.int .i64 5)), .p (.v (.int .i64 (upd e k x 5))), .mref 25]) :: some (.var [.loc 0 0, .p (.v (.int .i64 6)), .p (.v (.int .i64 (upd e k x 6))), .mref 26]) :: some (.var [.loc 0 0, .p (.v (.int .i64 7)), .p (.v (.int .i64 (upd e k x 7))), .mref 27]) :: l := by
 rcases lt8 hk with rfl | rfl | rfl | rfl | rfl | rfl | rfl | rfl <;> rfl
@[go_sem high] theorem elN8_4 {k : Nat} {l : List Nat} (hk : k < 8) : elN (4 + k) (4 :: 5 :: 6 :: 7 :: 8 :: 9 :: 10 :: 11 :: l) = true := by
 rcases lt8 hk with rfl | rfl | rfl | rfl | rfl | rfl | rfl | rfl <;> rfl
@[go_sem ↓ high] theorem posN8_4 {k i : Nat} {l : List Nat} (hk : k < 8) : posN (4 :: 5 :: 6 :: 7 :: 8 :: 9 :: 10 :: 11 :: l) (4 + k) i = i + k := by
 rcases lt8 hk with rfl | rfl | rfl | rfl | rfl | rfl | rfl | rfl <;> rfl
@[go_sem high] theorem nthN_4_4 {a0 a1 a2 a3 k : Nat} {l : List Nat} (hk : k < 8) : nth (a0 :: a1 :: a2 :: a3 :: 4 :: 5 :: 6 :: 7 :: 8 :: 9 :: 10 :: 11 :: l) (4 + k) = some (4 + k) := by
 rcases lt8 hk with rfl | rfl | rfl | rfl | rfl | rfl | rfl | rfl <;> rfl
@[go_sem high] theorem elN8_d {k : Nat} {l : List Nat} (hk : k < 8) : elN (4 + k) (1 :: 2 :: 3 :: 4 :: 5 :: 6 :: 7 :: 8 :: 9 :: 10 :: 11 :: l) = true := by
 rcases lt8 hk with rfl | rfl | rfl | rfl | rfl | rfl | rfl | rfl <;> rfl
@[go_sem ↓ high] theorem posN8_d {k : Nat} {l : List Nat} (hk : k < 8) : posN (0 :: 1 :: 2 :: 3 :: 4 :: 5 :: 6 :: 7 :: 8 :: 9 :: 10 :: 11 :: l) (4 + k) 0 = 4 + k := by
 rcases lt8 hk with rfl | rfl | rfl | rfl | rfl | rfl | rfl | rfl <;> rfl
structure Dv where
 n : Nat
 per : List Int
 cur : List Int
 hist : Nat → List (Int × Int)
 done : Nat → Int
 err : Nat → Int
 note : Nat → Value → Option Int
 off : Bool
 armed : Bool
 left : Int
 ex : Int
abbrev JT := Nat → List (Int × Int)
abbrev MT := Nat → List (Nat × Int)
def jk (A : Dv) (J : JT) (r : Nat) : List (Int × Int) := match A.hist r with
 | [] => []
 | _ :: _ => J r
def deO (A : Dv) (p c l t : Nat) : Ob := .var [.sl p 1 0 (8 * A.n), .sl c 1 0 (8 * A.n), .sl l 2 0 A.n, .loc t 0, .loc (t + 1) 0, .loc (t + 2) 0, .loc (t + 3) 0, .loc (t + 4) 0, .loc (t + 5) 0, .loc (t + 6) 0, .loc (t + 7) 0, .p (.v (.bool A.off)), .p (.v (.bool A.armed)), .p (.v (.int .i64 A.left)), .p (.v (.int .u64 A.ex))]
def peO (A : Dv) : Ob := .arr 1 (A.per.map eU)
def cuO (A : Dv) : Ob := .arr 1 (A.cur.map eU)
def liO (A : Dv) (J : JT) (h : Nat) : Ob := .pvar (2 * A.n) [.p (.v (.int .u64 (A.done 0))), .sl h 2 (jk A J 0).length (A.hist 0).length, .p (.v (.int .u64 (A.done 1))), .sl (h + 1) 2 (jk A J 1).length (A.hist 1).length, .p (.v (.int .u64 (A.done 2))), .sl (h + 2) 2 (jk A J 2).length (A.hist 2).length, .p (.v (.int .u64 (A.done 3))), .sl (h + 3) 2 (jk A J 3).length (A.hist 3).length, .p (.v (.int .u64 (A.done 4))), .sl (h + 4) 2 (jk A J 4).length (A.hist 4).length, .p (.v (.int .u64 (A.done 5))), .sl (h + 5) 2 (jk A J 5).length (A.hist 5).length, .p (.v (.int .u64 (A.done 6))), .sl (h + 6) 2 (jk A J 6).length (A.hist 6).length, .p (.v (.int .u64 (A.done 7))), .sl (h + 7) 2 (jk A J 7).length (A.hist 7).length]
def thO (A : Dv) (k d m : Nat) : Ob := .var [.loc d 0, .p (.v (.int .i64 k)), .p (.v (.int .i64 (A.err k))), .mref (m + k)]
def hiO (A : Dv) (J : JT) (r : Nat) : Ob := .arr 2 ((jk A J r).map eWr ++ (A.hist r).map eWr)
def noO (A : Dv) (k : Nat) : Ob := .mp (some .i64) (.i .u64 (A.note k))
def appL (ws : List Int) (l : List (Int × Int)) : List Int := l.foldl (fun ws s => ws.set (s.1 / 8).toNat s.2) ws
theorem appL_len (l : List (Int × Int)) : ∀ ws : List Int, (appL ws l).length = ws.length := by
 unfold appL
 induction l with
 | nil => intro ws; rfl
 | cons x l ih => intro ws; rw [List.foldl_cons, ih, List.length_set]
theorem appL_app (ws : List Int) (a b : List (Int × Int)) : appL ws (a ++ b) = appL (appL ws a) b := by unfold appL; rw [List.foldl_append]
def contS (A : Dv) (f : Nat → Nat) : List Int := (List.range (8 * A.n)).map fun j => (appL A.per ((A.hist (j / 8)).take (f (j / 8)))).getD j 0
theorem contS_len (A : Dv) (f : Nat → Nat) : (contS A f).length = 8 * A.n := by simp [contS]
structure WF (A : Dv) : Prop where
 n0 : 0 < A.n
 n6 : A.n ≤ 8
 per : A.per.length = 8 * A.n
 cur : A.cur.length = 8 * A.n
 hist : ∀ r, r < 8 → ∀ x, x ∈ A.hist r → ((r : Int) = x.1 / 64 ∧ x.1 % 8 = 0 ∧ 0 ≤ x.1) ∧ 0 ≤ x.2 ∧ x.2 ≤ 18446744073709551615
 top : ∀ r, A.n ≤ r → r < 8 → A.hist r = []
 len : ∀ r, r < 8 → 0 ≤ A.done r ∧ A.done r + (A.hist r).length ≤ 1000000000
 jl : True
theorem appL_off (l : List (Int × Int)) (j : Nat) (h : ∀ x, x ∈ l → (x.1 / 8).toNat ≠ j) : ∀ ws : List Int, (appL ws l).getD j 0 = ws.getD j 0 := by
 induction l with
 | nil => intro ws; rfl
 | cons x l ih =>
  intro ws
  have h1 := ih (fun y hy => h y (List.mem_cons_of_mem _ hy)) (ws.set (x.1 / 8).toNat x.2)
  have e : appL ws (x :: l) = appL (ws.set (x.1 / 8).toNat x.2) l := rfl
  rw [e, h1]
  simp only [List.getD_eq_getElem?_getD]
  rw [List.getElem?_set_ne (h x List.mem_cons_self)]
theorem contS_get (A : Dv) (f : Nat → Nat) (j : Nat) (hj : j < 8 * A.n) : (contS A f).getD j 0 = (appL A.per ((A.hist (j / 8)).take (f (j / 8)))).getD j 0 := by
 unfold contS; simp [List.getD_eq_getElem?_getD, hj]
theorem list_getD {a b : List Int} (hl : a.length = b.length) (h : ∀ j, j < a.length → a.getD j 0 = b.getD j 0) : a = b := by
 refine List.ext_getElem hl fun i h1 h2 => ?_
 have := h i h1
 simpa [List.getD_eq_getElem?_getD, h1, h2] using this
end Go.Proofs.YtegekpjkbedngaaGreat
namespace Go.Proofs.YtegekpjkbedngaaGreat
set_option maxHeartbeats 4000000
set_option maxRecDepth 100000
open Go Go.Ab
attribute [local irreducible] callK callF loopQ vstep vskip pickE hideP
theorem appL_nil (ws : List Int) : appL ws [] = ws := rfl
theorem appL_step (ws : List Int) (l : List (Int × Int)) (i : Nat) (hi : i < l.length) : ((appL ws (l.take i)).map eU).set ((l.getD i default).1 / 8).toNat (.v (.int .u64 (l.getD i default).2)) = (appL ws (l.take (i + 1))).map eU := by
 rw [yE default hi, appL_app]
 show _ = ((appL ws (l.take i)).set _ _).map eU
 rw [List.map_set]; rfl
theorem pick_row {j l : List (Int × Int)} {i : Nat} (h : i < l.length) : (j.map eWr ++ l.map eWr)[j.length + i]? = some (eWr (l.getD i default)) := by
 rw [List.getElem?_append_right (by simp)]
 simp [List.getD_eq_getElem?_getD, h]
theorem dApply (ws : List Int) (j l : List (Int × Int)) (m s k : Nat) (hm : ws.length = m) (hs : s = j.length) (hk : k ≤ l.length) (hb : m ≤ 100000 ∧ k ≤ 1000000000) (hl : ∀ x, x ∈ l → 0 ≤ x.1 ∧ x.1 / 8 < m) : ACalls Tryz.prog 119 [.sl 0 1 0 m, .sl 1 2 s k] [.arr 1 (ws.map eU), .arr 2 (j.map eWr ++ l.map eWr)] (.p (.tup [])) [.arr 1 ((appL ws (l.take k)).map eU), .arr 2 (j.map eWr ++ l.map eWr)] := by
 refine yA (E := E) (fn := Tryz.f119) 20 [] rfl rfl rfl rfl (by decide) rfl rfl ?_
 repeat' (first
  | (with_reducible first | apply zY | apply zT | apply zM | apply zN | apply zO | refine chk_ok (by kernel_rfl) ?_)
  | ((with_reducible first | apply zP | apply zQ | apply zR | apply zL) <;> intro h)
  | ((with_reducible show False); omega)
  | ((first | (with_reducible first | apply zW | apply zV | apply zU | apply zS | apply zX | show VX _ _ _ _ _ _ _ | show vstep _ _ _ _ _ | show vskip _ _ _ | show withV _ _) | ((with_reducible show endA _ _ _ _ _ _ _); simp -implicitDefEqProofs only [endA]) | (with_reducible first | refine zB default (by first | omega | (simp only [LN]; omega)) (by first | omega | (simp only [LN]; omega)) ?_ | refine zC default (by first | omega | (simp only [LN]; omega)) ?_ | refine And.intro (by first | decide | omega | assumption | (simp only [LN]; omega)) ?_) | ((with_reducible show pickE _ _ _); first | refine zA _ ⟨by omega, by rfl⟩ ?_ | refine zA _ (by rfl) ?_) | fail); try simp -dsimp -implicitDefEqProofs (maxSteps := 1000000) (disch := first | omega | (simp only [LN]; omega)) only [go_sem])
  | fail)
 refine r_loopA (α := Nat) [0, 6, 7] (fun i b => [(8, aI i)]) (fun i b => [(0, .arr 1 ((appL ws (l.take i)).map eU))]) (fun i => []) (fun i => i ≤ k) (fun i => k - i) (0) ?h0_1 ?hs0_1 ?I_1 ?hI_1 ?round_1
 case hI_1 => intro x; (simp -dsimp -implicitDefEqProofs (maxSteps := 1000000) (disch := first | omega | (simp only [LN]; omega)) only [go_sem]) <;> exact rfl
 case hs0_1 => refine wk_auto ?_; (simp -dsimp -implicitDefEqProofs (maxSteps := 1000000) (disch := first | omega | (simp only [LN, appL_nil]; omega)) only [go_sem, appL_nil]) <;> (try omega)
 case h0_1 => exact Nat.zero_le _
 case round_1 =>
  intro i h1
  have hal : (appL ws (l.take i)).length = m := by rw [appL_len]; exact hm
  by_cases hi : i < k
  ·have hx := hl (l.getD i default) (by rw [List.getD_eq_getElem?_getD, List.getElem?_eq_getElem (by omega)]; exact List.getElem_mem _)
   have hst := appL_step ws l i (by omega)
   have e1 : (l.getD i default).1.tdiv 8 = (l.getD i default).1 / 8 := Int.tdiv_eq_ediv_of_nonneg hx.1
   have e2 : IntKind.u64.wrap ((l.getD i default).1 / 8) = (l.getD i default).1 / 8 := by rw [IntKind.wrap_u64]; omega
   repeat' (first
    | (with_reducible first | apply zY | apply zT | apply zM | apply zN | apply zO | refine chk_ok (by kernel_rfl) ?_)
    | ((with_reducible first | apply zP | apply zQ | apply zR | apply zL) <;> intro h <;> try (exfalso; first | omega | exact h rfl | (revert h; decide) | (cases h; done)))
    | ((with_reducible show False); omega)
    | ((first | (with_reducible first | apply zW | apply zV | apply zU | apply zS | apply zX | show VX _ _ _ _ _ _ _ | show vstep _ _ _ _ _ | show vskip _ _ _ | show withV _ _) | ((with_reducible show endA _ _ _ _ _ _ _); simp -implicitDefEqProofs only [endA]) | (with_reducible first | refine zB default (by first | omega | (simp only [LN, hal, e1, e2]; omega)) (by first | omega | (simp only [LN, hal, e1, e2]; omega)) ?_ | refine zC default (by first | omega | (simp only [LN, hal, e1, e2]; omega)) ?_ | refine And.intro (by first | decide | omega | assumption | (simp only [LN, hal, e1, e2]; omega)) ?_) | ((with_reducible show pickE _ _ _); first | refine zA _ ⟨by omega, by rfl⟩ ?_ | refine zA _ (by rfl) ?_) | fail); try simp -dsimp -implicitDefEqProofs (maxSteps := 1000000) (disch := first | omega | (simp only [LN, hal, e1, e2]; omega)) only [go_sem, hal, e1, e2])
    | fail)
   all_goals try omega
   refine zA (eWr (l.getD i default)) (by rw [hs]; exact pick_row (by omega)) ?_
   simp -implicitDefEqProofs only [eWr]
   simp -dsimp -implicitDefEqProofs (maxSteps := 1000000) (disch := first | omega | (simp only [LN]; omega)) only [go_sem]
   repeat' (first
    | (with_reducible first | apply zY | apply zT | apply zM | apply zN | apply zO | refine chk_ok (by kernel_rfl) ?_)
    | ((with_reducible first | apply zP | apply zQ | apply zR | apply zL) <;> intro h <;> try (exfalso; first | omega | exact h rfl | (revert h; decide) | (cases h; done)))
    | ((with_reducible show False); omega)
    | ((first | (with_reducible first | apply zW | apply zV | apply zU | apply zS | apply zX | show VX _ _ _ _ _ _ _ | show vstep _ _ _ _ _ | show vskip _ _ _ | show withV _ _) | ((with_reducible show endA _ _ _ _ _ _ _); simp -implicitDefEqProofs only [endA]) | (with_reducible first | refine zB default (by first | omega | (simp only [LN, hal, e1, e2]; omega)) (by first | omega | (simp only [LN, hal, e1, e2]; omega)) ?_ | refine zC default (by first | omega | (simp only [LN, hal, e1, e2]; omega)) ?_ | refine And.intro (by first | decide | omega | assumption | (simp only [LN, hal, e1, e2]; omega)) ?_) | ((with_reducible show pickE _ _ _); first | refine zA _ ⟨by omega, by rfl⟩ ?_ | refine zA _ (by rfl) ?_) | fail); try simp -dsimp -implicitDefEqProofs (maxSteps := 1000000) (disch := first | omega | (simp only [LN, hal, e1, e2]; omega)) only [go_sem, hal, e1, e2])
    | fail)
   all_goals first | omega | (refine zZ (i + 1) ?_ ?_ ?_; (omega); (show _ < _; omega); (simp -dsimp -implicitDefEqProofs (maxSteps := 1000000) (disch := first | omega | (simp only [LN, hst]; omega)) only [go_sem, hst]; try trivial))
  ·obtain rfl : i = k := by omega
   repeat' (first
    | (with_reducible first | apply zY | apply zT | apply zM | apply zN | apply zO | refine chk_ok (by kernel_rfl) ?_)
    | ((with_reducible first | apply zP | apply zQ | apply zR | apply zL) <;> intro h <;> try (exfalso; first | omega | exact h rfl | (revert h; decide) | (cases h; done)))
    | ((with_reducible show False); omega)
    | ((first | (with_reducible first | apply zW | apply zV | apply zU | apply zS | apply zX | show VX _ _ _ _ _ _ _ | show vstep _ _ _ _ _ | show vskip _ _ _ | show withV _ _) | ((with_reducible show endA _ _ _ _ _ _ _); simp -implicitDefEqProofs only [endA]) | (with_reducible first | refine zB default (by first | omega | (simp only [LN, hal]; omega)) (by first | omega | (simp only [LN, hal]; omega)) ?_ | refine zC default (by first | omega | (simp only [LN, hal]; omega)) ?_ | refine And.intro (by first | decide | omega | assumption | (simp only [LN, hal]; omega)) ?_) | ((with_reducible show pickE _ _ _); first | refine zA _ ⟨by omega, by rfl⟩ ?_ | refine zA _ (by rfl) ?_) | fail); try simp -dsimp -implicitDefEqProofs (maxSteps := 1000000) (disch := first | omega | (simp only [LN, hal]; omega)) only [go_sem, hal])
    | fail)
   all_goals first | omega
end Go.Proofs.YtegekpjkbedngaaGreat
namespace Go.Proofs.YtegekpjkbedngaaGreat
set_option maxHeartbeats 4000000
set_option maxRecDepth 100000
open Go Go.Ab
attribute [local irreducible] callK callF loopQ vstep vskip pickE hideP
attribute [local go_sem] deO peO cuO liO thO hiO noO
def Dv.fail (A : Dv) (k : Nat) (e : Int) : Dv := if A.err k = 0 then { A with err := upd A.err k e } else A
def Dv.onS (A : Dv) (k : Nat) (v : Bool) : Dv := if A.off = true then A.fail k 3 else if v = true then A else A.fail k 2
def Dv.cnt (A : Dv) (k : Nat) (v : Bool) : Dv := if A.off = true then A.fail k 3 else if v = false then A.fail k 2 else if A.armed = true then (if A.left = 0 then ({ A with off := true } : Dv).fail k 3 else { A with left := IntKind.i64.wrap (A.left - 1), ex := IntKind.u64.wrap (A.ex + 1) }) else { A with ex := IntKind.u64.wrap (A.ex + 1) }
def Dv.cntB (A : Dv) (v : Bool) : Bool := !A.off && (v && !(A.armed && decide (A.left = 0)))
theorem tFail (A : Dv) (J : JT) (k : Nat) (hk : k < 8) (e : Int) : ACalls Tryz.prog 118 [.loc (4 + k) 0, .p (.v (.int .i64 e))] [deO A 1 2 3 4, peO A, cuO A, liO A J 12, thO A 0 0 20, thO A 1 0 20, thO A 2 0 20, thO A 3 0 20, thO A 4 0 20, thO A 5 0 20, thO A 6 0 20, thO A 7 0 20, hiO A J 0, hiO A J 1, hiO A J 2, hiO A J 3, hiO A J 4, hiO A J 5, hiO A J 6, hiO A J 7, noO A 0, noO A 1, noO A 2, noO A 3, noO A 4, noO A 5, noO A 6, noO A 7] (.p (.tup [])) [deO (A.fail k e) 1 2 3 4, peO (A.fail k e), cuO (A.fail k e), liO (A.fail k e) J 12, thO (A.fail k e) 0 0 20, thO (A.fail k e) 1 0 20, thO (A.fail k e) 2 0 20, thO (A.fail k e) 3 0 20, thO (A.fail k e) 4 0 20, thO (A.fail k e) 5 0 20, thO (A.fail k e) 6 0 20, thO (A.fail k e) 7 0 20, hiO (A.fail k e) J 0, hiO (A.fail k e) J 1, hiO (A.fail k e) J 2, hiO (A.fail k e) J 3, hiO (A.fail k e) J 4, hiO (A.fail k e) J 5, hiO (A.fail k e) J 6, hiO (A.fail k e) J 7, noO (A.fail k e) 0, noO (A.fail k e) 1, noO (A.fail k e) 2, noO (A.fail k e) 3, noO (A.fail k e) 4, noO (A.fail k e) 5, noO (A.fail k e) 6, noO (A.fail k e) 7] := by
 refine yA (E := E) (fn := Tryz.f118) 13 [] rfl rfl rfl rfl (by decide) rfl rfl ?_
 repeat' (first
  | (with_reducible first | apply zY | apply zT | apply zM | apply zN | apply zO | refine chk_ok (by kernel_rfl) ?_)
  | ((with_reducible first | apply zP | apply zQ | apply zR | apply zL) <;> intro h)
  | ((with_reducible show False); omega)
  | ((first | (with_reducible first | apply zW | apply zV | apply zU | apply zS | apply zX | show VX _ _ _ _ _ _ _ | show vstep _ _ _ _ _ | show vskip _ _ _ | show withV _ _) | ((with_reducible show endA _ _ _ _ _ _ _); simp -implicitDefEqProofs only [endA]) | (with_reducible first | refine zB default (by first | omega | (simp only [LN]; omega)) (by first | omega | (simp only [LN]; omega)) ?_ | refine zC default (by first | omega | (simp only [LN]; omega)) ?_ | refine And.intro (by first | decide | omega | assumption | (simp only [LN]; omega)) ?_) | ((with_reducible show pickE _ _ _); first | refine zA _ ⟨by omega, by rfl⟩ ?_ | refine zA _ (by rfl) ?_) | fail); try simp -dsimp -implicitDefEqProofs (maxSteps := 1000000) (disch := first | omega | (simp only [LN]; omega)) only [go_sem])
  | fail)
 all_goals (simp [Dv.fail, upd, jk, h])
end Go.Proofs.YtegekpjkbedngaaGreat
namespace Go.Proofs.YtegekpjkbedngaaGreat
set_option maxHeartbeats 4000000
set_option maxRecDepth 100000
open Go Go.Ab
attribute [local irreducible] callK callF loopQ vstep vskip pickE hideP
attribute [local go_sem] deO peO cuO liO thO hiO noO
def Dv.persist (A : Dv) (r k : Nat) : Dv := { A with per := appL A.per ((A.hist r).take k), hist := upd A.hist r ((A.hist r).drop k), done := upd A.done r (A.done r + k) }
def jper (A : Dv) (J : JT) (r k : Nat) : JT := fun i => if i = r then jk A J r ++ (A.hist r).take k else J i
theorem jk_per (A : Dv) (J : JT) (r k i : Nat) (h : k < (A.hist r).length) : jk (A.persist r k) (jper A J r k) i = if i = r then jk A J r ++ (A.hist r).take k else jk A J i := by
 unfold jk Dv.persist upd jper
 by_cases hi : i = r
 ·subst hi
  simp only [if_true]
  cases hd : (A.hist i).drop k with
  | nil => have := congrArg List.length hd; simp at this; omega
  | cons x l => rfl
 ·simp only [if_neg hi]
theorem jk_perA (A : Dv) (J : JT) (r k i : Nat) (h : k = (A.hist r).length) : jk (A.persist r k) (jper A J r k) i = if i = r then [] else jk A J i := by
 unfold jk Dv.persist upd jper
 by_cases hi : i = r
 ·subst hi
  simp only [if_true]
  rw [show (A.hist i).drop k = [] from List.drop_of_length_le (by omega)]
 ·simp only [if_neg hi]
theorem per_p (A : Dv) (r k : Nat) : (A.persist r k).n = A.n ∧ (A.persist r k).per = appL A.per ((A.hist r).take k) ∧ (A.persist r k).cur = A.cur ∧ (A.persist r k).err = A.err ∧ (A.persist r k).note = A.note ∧ (A.persist r k).off = A.off ∧ (A.persist r k).armed = A.armed ∧ (A.persist r k).left = A.left ∧ (A.persist r k).ex = A.ex := ⟨rfl, rfl, rfl, rfl, rfl, rfl, rfl, rfl, rfl⟩
theorem per_hist (A : Dv) (r k i : Nat) : (A.persist r k).hist i = if i = r then (A.hist r).drop k else A.hist i := rfl
theorem per_done (A : Dv) (r k i : Nat) : (A.persist r k).done i = if i = r then A.done r + k else A.done i := rfl
def noX (es : Nat → Array MapEntry) (cl : Nat → Nat) (k : Nat) : Ob := .mpx (some .i64) (es k) (cl k)
attribute [local go_sem] noX
theorem dPersistX (A : Dv) (J : JT) (es : Nat → Array MapEntry) (cl : Nat → Nat) (h : WF A) (r k : Nat) (hr : r < A.n) (hk : k ≤ (A.hist r).length) (hj : (jk A J r).length ≤ 1000000000) : ACalls Tryz.prog 114 [.loc 0 0, .p (.v (.int .i64 r)), .p (.v (.int .i64 k))] [deO A 1 2 3 4, peO A, cuO A, liO A J 12, thO A 0 0 20, thO A 1 0 20, thO A 2 0 20, thO A 3 0 20, thO A 4 0 20, thO A 5 0 20, thO A 6 0 20, thO A 7 0 20, hiO A J 0, hiO A J 1, hiO A J 2, hiO A J 3, hiO A J 4, hiO A J 5, hiO A J 6, hiO A J 7, noX es cl 0, noX es cl 1, noX es cl 2, noX es cl 3, noX es cl 4, noX es cl 5, noX es cl 6, noX es cl 7] (.p (.tup [])) [deO (A.persist r k) 1 2 3 4, peO (A.persist r k), cuO (A.persist r k), liO (A.persist r k) (jper A J r k) 28, thO (A.persist r k) 0 0 20, thO (A.persist r k) 1 0 20, thO (A.persist r k) 2 0 20, thO (A.persist r k) 3 0 20, thO (A.persist r k) 4 0 20, thO (A.persist r k) 5 0 20, thO (A.persist r k) 6 0 20, thO (A.persist r k) 7 0 20, .dead, .dead, .dead, .dead, .dead, .dead, .dead, .dead, noX es cl 0, noX es cl 1, noX es cl 2, noX es cl 3, noX es cl 4, noX es cl 5, noX es cl 6, noX es cl 7, hiO (A.persist r k) (jper A J r k) 0, hiO (A.persist r k) (jper A J r k) 1, hiO (A.persist r k) (jper A J r k) 2, hiO (A.persist r k) (jper A J r k) 3, hiO (A.persist r k) (jper A J r k) 4, hiO (A.persist r k) (jper A J r k) 5, hiO (A.persist r k) (jper A J r k) 6, hiO (A.persist r k) (jper A J r k) 7] := by
 refine yA (E := E) (fn := Tryz.f114) 51 [] rfl rfl rfl rfl (by decide) rfl rfl ?_
 have h6 := h.n6
 have hp := h.per
 have hl := h.len r (by omega)
 have hh := h.hist r (by omega)
 have e1 : IntKind.u64.wrap (k : Int) = k := by rw [IntKind.wrap_u64]; omega
 have e2 : IntKind.u64.wrap (A.done r + k) = A.done r + k := by rw [IntKind.wrap_u64]; omega
 have ka := dApply A.per (jk A J r) (A.hist r) (8 * A.n) (jk A J r).length k hp rfl hk (by omega) (fun x hx => by have := hh x hx; omega)
 by_cases hkn : k = (A.hist r).length
 ·have jp := fun i => jk_perA A J r k i hkn
  have hd : (A.hist r).drop k = [] := List.drop_of_length_le (by omega)
  subst hkn
  have hs : r = 0 ∨ r = 1 ∨ r = 2 ∨ r = 3 ∨ r = 4 ∨ r = 5 ∨ r = 6 ∨ r = 7 := by omega
  rcases hs with rfl | rfl | rfl | rfl | rfl | rfl | rfl | rfl
  all_goals
   repeat' (first
    | (with_reducible first | apply zY | apply zT | apply zM | apply zN | apply zO | refine chk_ok (by kernel_rfl) ?_)
    | ((with_reducible first | apply zP | apply zQ | apply zR | apply zL) <;> intro h <;> try (exfalso; first | omega | exact h rfl | (revert h; decide) | (cases h; done)))
    | ((with_reducible show False); omega)
    | ((first | (with_reducible first | apply zW | apply zV | apply zU | apply zS | apply zX | show VX _ _ _ _ _ _ _ | show vstep _ _ _ _ _ | show vskip _ _ _ | show withV _ _) | ((with_reducible show endA _ _ _ _ _ _ _); simp -implicitDefEqProofs only [endA]) | (with_reducible first | refine zB default (by first | omega | (simp only [LN, e1, e2]; omega)) (by first | omega | (simp only [LN, e1, e2]; omega)) ?_ | refine zC default (by first | omega | (simp only [LN, e1, e2]; omega)) ?_ | refine And.intro (by first | decide | omega | assumption | (simp only [LN, e1, e2]; omega)) ?_) | (with_reducible first | apply zG | apply zH | apply zI | apply hidePI_own) | ((with_reducible apply zJ); (first | exact ka | fail)) | ((with_reducible show pickE _ _ _); first | refine zA _ ⟨by omega, by rfl⟩ ?_ | refine zA _ (by rfl) ?_) | fail); try simp -dsimp -implicitDefEqProofs (maxSteps := 1000000) (disch := first | omega | (simp only [LN, e1, e2]; omega)) only [go_sem, e1, e2])
    | fail)
   refine And.intro (by split <;> (simp <;> omega)) ?_
   repeat' (first
    | (with_reducible first | apply zY | apply zT | apply zM | apply zN | apply zO | refine chk_ok (by kernel_rfl) ?_)
    | ((with_reducible first | apply zP | apply zQ | apply zR | apply zL) <;> intro h <;> try (exfalso; first | omega | exact h rfl | (revert h; decide) | (cases h; done)))
    | ((with_reducible show False); omega)
    | ((first | (with_reducible first | apply zW | apply zV | apply zU | apply zS | apply zX | show VX _ _ _ _ _ _ _ | show vstep _ _ _ _ _ | show vskip _ _ _ | show withV _ _) | ((with_reducible show endA _ _ _ _ _ _ _); simp -implicitDefEqProofs only [endA]) | (with_reducible first | refine zB default (by first | omega | (simp only [LN, e1, e2]; omega)) (by first | omega | (simp only [LN, e1, e2]; omega)) ?_ | refine zC default (by first | omega | (simp only [LN, e1, e2]; omega)) ?_ | refine And.intro (by first | decide | omega | assumption | (simp only [LN, e1, e2]; omega)) ?_) | (with_reducible first | apply zG | apply zH | apply zI | apply hidePI_own) | ((with_reducible apply zJ); (first | exact ka | fail)) | ((with_reducible show pickE _ _ _); first | refine zA _ ⟨by omega, by rfl⟩ ?_ | refine zA _ (by rfl) ?_) | fail); try simp -dsimp -implicitDefEqProofs (maxSteps := 1000000) (disch := first | omega | (simp only [LN, e1, e2]; omega)) only [go_sem, e1, e2])
    | fail)
   all_goals first | omega | (simp [jp, per_hist, per_done, per_p]; done)
 ·have jp := fun i => jk_per A J r k i (by omega)
  have hs : r = 0 ∨ r = 1 ∨ r = 2 ∨ r = 3 ∨ r = 4 ∨ r = 5 ∨ r = 6 ∨ r = 7 := by omega
  rcases hs with rfl | rfl | rfl | rfl | rfl | rfl | rfl | rfl
  all_goals
   repeat' (first
    | (with_reducible first | apply zY | apply zT | apply zM | apply zN | apply zO | refine chk_ok (by kernel_rfl) ?_)
    | ((with_reducible first | apply zP | apply zQ | apply zR | apply zL) <;> intro h <;> try (exfalso; first | omega | exact h rfl | (revert h; decide) | (cases h; done)))
    | ((with_reducible show False); omega)
    | ((first | (with_reducible first | apply zW | apply zV | apply zU | apply zS | apply zX | show VX _ _ _ _ _ _ _ | show vstep _ _ _ _ _ | show vskip _ _ _ | show withV _ _) | ((with_reducible show endA _ _ _ _ _ _ _); simp -implicitDefEqProofs only [endA]) | (with_reducible first | refine zB default (by first | omega | (simp only [LN, e1, e2]; omega)) (by first | omega | (simp only [LN, e1, e2]; omega)) ?_ | refine zC default (by first | omega | (simp only [LN, e1, e2]; omega)) ?_ | refine And.intro (by first | decide | omega | assumption | (simp only [LN, e1, e2]; omega)) ?_) | (with_reducible first | apply zG | apply zH | apply zI | apply hidePI_own) | ((with_reducible apply zJ); (first | exact ka | fail)) | ((with_reducible show pickE _ _ _); first | refine zA _ ⟨by omega, by rfl⟩ ?_ | refine zA _ (by rfl) ?_) | fail); try simp -dsimp -implicitDefEqProofs (maxSteps := 1000000) (disch := first | omega | (simp only [LN, e1, e2]; omega)) only [go_sem, e1, e2])
    | fail)
   refine And.intro (by split <;> (simp <;> omega)) ?_
   repeat' (first
    | (with_reducible first | apply zY | apply zT | apply zM | apply zN | apply zO | refine chk_ok (by kernel_rfl) ?_)
    | ((with_reducible first | apply zP | apply zQ | apply zR | apply zL) <;> intro h <;> try (exfalso; first | omega | exact h rfl | (revert h; decide) | (cases h; done)))
    | ((with_reducible show False); omega)
    | ((first | (with_reducible first | apply zW | apply zV | apply zU | apply zS | apply zX | show VX _ _ _ _ _ _ _ | show vstep _ _ _ _ _ | show vskip _ _ _ | show withV _ _) | ((with_reducible show endA _ _ _ _ _ _ _); simp -implicitDefEqProofs only [endA]) | (with_reducible first | refine zB default (by first | omega | (simp only [LN, e1, e2]; omega)) (by first | omega | (simp only [LN, e1, e2]; omega)) ?_ | refine zC default (by first | omega | (simp only [LN, e1, e2]; omega)) ?_ | refine And.intro (by first | decide | omega | assumption | (simp only [LN, e1, e2]; omega)) ?_) | (with_reducible first | apply zG | apply zH | apply zI | apply hidePI_own) | ((with_reducible apply zJ); (first | exact ka | fail)) | ((with_reducible show pickE _ _ _); first | refine zA _ ⟨by omega, by rfl⟩ ?_ | refine zA _ (by rfl) ?_) | fail); try simp -dsimp -implicitDefEqProofs (maxSteps := 1000000) (disch := first | omega | (simp only [LN, e1, e2]; omega)) only [go_sem, e1, e2])
    | fail)
   all_goals first | omega | (simp [jp, per_hist, per_done, per_p, Nat.min_eq_left hk]; done)
end Go.Proofs.YtegekpjkbedngaaGreat
namespace Go.Proofs.YtegekpjkbedngaaGreat
set_option maxHeartbeats 4000000
set_option maxRecDepth 100000
open Go Go.Ab
attribute [local irreducible] callK callF loopQ vstep vskip pickE hideP
attribute [local go_sem] deO peO cuO liO thO hiO noO
theorem tOn (A : Dv) (J : JT) (k : Nat) (hk : k < 8) (v : Bool) : ACalls Tryz.prog 115 [.loc (4 + k) 0, .p (.v (.bool v))] [deO A 1 2 3 4, peO A, cuO A, liO A J 12, thO A 0 0 20, thO A 1 0 20, thO A 2 0 20, thO A 3 0 20, thO A 4 0 20, thO A 5 0 20, thO A 6 0 20, thO A 7 0 20, hiO A J 0, hiO A J 1, hiO A J 2, hiO A J 3, hiO A J 4, hiO A J 5, hiO A J 6, hiO A J 7, noO A 0, noO A 1, noO A 2, noO A 3, noO A 4, noO A 5, noO A 6, noO A 7] (.p (.v (.bool (!A.off && v)))) [deO (A.onS k v) 1 2 3 4, peO (A.onS k v), cuO (A.onS k v), liO (A.onS k v) J 12, thO (A.onS k v) 0 0 20, thO (A.onS k v) 1 0 20, thO (A.onS k v) 2 0 20, thO (A.onS k v) 3 0 20, thO (A.onS k v) 4 0 20, thO (A.onS k v) 5 0 20, thO (A.onS k v) 6 0 20, thO (A.onS k v) 7 0 20, hiO (A.onS k v) J 0, hiO (A.onS k v) J 1, hiO (A.onS k v) J 2, hiO (A.onS k v) J 3, hiO (A.onS k v) J 4, hiO (A.onS k v) J 5, hiO (A.onS k v) J 6, hiO (A.onS k v) J 7, noO (A.onS k v) 0, noO (A.onS k v) 1, noO (A.onS k v) 2, noO (A.onS k v) 3, noO (A.onS k v) 4, noO (A.onS k v) 5, noO (A.onS k v) 6, noO (A.onS k v) 7] := by
 refine yA (E := E) (fn := Tryz.f115) 20 [.tmp 4] rfl rfl rfl rfl (by decide) rfl rfl ?_
 repeat' (first
  | (with_reducible first | apply zY | apply zT | apply zM | apply zN | apply zO | refine chk_ok (by kernel_rfl) ?_)
  | ((with_reducible first | apply zP | apply zQ | apply zR | apply zL) <;> intro h)
  | ((with_reducible show False); omega)
  | ((first | (with_reducible first | apply zW | apply zV | apply zU | apply zS | apply zX | show VX _ _ _ _ _ _ _ | show vstep _ _ _ _ _ | show vskip _ _ _ | show withV _ _) | ((with_reducible show endA _ _ _ _ _ _ _); simp -implicitDefEqProofs only [endA]) | (with_reducible first | refine zB default (by first | omega | (simp only [LN]; omega)) (by first | omega | (simp only [LN]; omega)) ?_ | refine zC default (by first | omega | (simp only [LN]; omega)) ?_ | refine And.intro (by first | decide | omega | assumption | (simp only [LN]; omega)) ?_) | (with_reducible first | apply zG | apply zH | apply zI | apply hidePI_own) | ((with_reducible apply zJ); (first | exact tFail A J _ hk 2 | exact tFail A J _ hk 3 | fail)) | ((with_reducible show pickE _ _ _); first | refine zA _ ⟨by omega, by rfl⟩ ?_ | refine zA _ (by rfl) ?_) | fail); try simp -dsimp -implicitDefEqProofs (maxSteps := 1000000) (disch := first | omega | (simp only [LN]; omega)) only [go_sem])
  | fail)
 all_goals (simp [Dv.onS, *])
theorem onS_t {A : Dv} {k : Nat} {v : Bool} (h : (!A.off && v) = true) : A.onS k v = A := by
 simp at h
 simp [Dv.onS, h]
theorem tOn1 (A : Dv) (J : JT) (k : Nat) (hk : k < 8) (v : Bool) (h : (!A.off && v) = true) : ACalls Tryz.prog 115 [.loc (4 + k) 0, .p (.v (.bool v))] [deO A 1 2 3 4, peO A, cuO A, liO A J 12, thO A 0 0 20, thO A 1 0 20, thO A 2 0 20, thO A 3 0 20, thO A 4 0 20, thO A 5 0 20, thO A 6 0 20, thO A 7 0 20, hiO A J 0, hiO A J 1, hiO A J 2, hiO A J 3, hiO A J 4, hiO A J 5, hiO A J 6, hiO A J 7, noO A 0, noO A 1, noO A 2, noO A 3, noO A 4, noO A 5, noO A 6, noO A 7] (.p (.v (.bool true))) [deO A 1 2 3 4, peO A, cuO A, liO A J 12, thO A 0 0 20, thO A 1 0 20, thO A 2 0 20, thO A 3 0 20, thO A 4 0 20, thO A 5 0 20, thO A 6 0 20, thO A 7 0 20, hiO A J 0, hiO A J 1, hiO A J 2, hiO A J 3, hiO A J 4, hiO A J 5, hiO A J 6, hiO A J 7, noO A 0, noO A 1, noO A 2, noO A 3, noO A 4, noO A 5, noO A 6, noO A 7] := by
 have := tOn A J k hk v
 rw [h, onS_t h] at this; exact this
theorem tOn0 (A : Dv) (J : JT) (k : Nat) (hk : k < 8) (v : Bool) (h : (!A.off && v) = false) : ACalls Tryz.prog 115 [.loc (4 + k) 0, .p (.v (.bool v))] [deO A 1 2 3 4, peO A, cuO A, liO A J 12, thO A 0 0 20, thO A 1 0 20, thO A 2 0 20, thO A 3 0 20, thO A 4 0 20, thO A 5 0 20, thO A 6 0 20, thO A 7 0 20, hiO A J 0, hiO A J 1, hiO A J 2, hiO A J 3, hiO A J 4, hiO A J 5, hiO A J 6, hiO A J 7, noO A 0, noO A 1, noO A 2, noO A 3, noO A 4, noO A 5, noO A 6, noO A 7] (.p (.v (.bool false))) [deO (A.onS k v) 1 2 3 4, peO (A.onS k v), cuO (A.onS k v), liO (A.onS k v) J 12, thO (A.onS k v) 0 0 20, thO (A.onS k v) 1 0 20, thO (A.onS k v) 2 0 20, thO (A.onS k v) 3 0 20, thO (A.onS k v) 4 0 20, thO (A.onS k v) 5 0 20, thO (A.onS k v) 6 0 20, thO (A.onS k v) 7 0 20, hiO (A.onS k v) J 0, hiO (A.onS k v) J 1, hiO (A.onS k v) J 2, hiO (A.onS k v) J 3, hiO (A.onS k v) J 4, hiO (A.onS k v) J 5, hiO (A.onS k v) J 6, hiO (A.onS k v) J 7, noO (A.onS k v) 0, noO (A.onS k v) 1, noO (A.onS k v) 2, noO (A.onS k v) 3, noO (A.onS k v) 4, noO (A.onS k v) 5, noO (A.onS k v) 6, noO (A.onS k v) 7] := by
 have := tOn A J k hk v
 rw [h] at this; exact this
theorem dLines6 (A : Dv) (J : JT) (hn : A.n ≤ 8) : ACalls Tryz.prog 104 [.loc 0 0] [deO A 1 2 3 4, peO A, cuO A, liO A J 12, thO A 0 0 20, thO A 1 0 20, thO A 2 0 20, thO A 3 0 20, thO A 4 0 20, thO A 5 0 20, thO A 6 0 20, thO A 7 0 20, hiO A J 0, hiO A J 1, hiO A J 2, hiO A J 3, hiO A J 4, hiO A J 5, hiO A J 6, hiO A J 7, noO A 0, noO A 1, noO A 2, noO A 3, noO A 4, noO A 5, noO A 6, noO A 7] (.p (.v (.int .i64 A.n))) [deO A 1 2 3 4, peO A, cuO A, liO A J 12, thO A 0 0 20, thO A 1 0 20, thO A 2 0 20, thO A 3 0 20, thO A 4 0 20, thO A 5 0 20, thO A 6 0 20, thO A 7 0 20, hiO A J 0, hiO A J 1, hiO A J 2, hiO A J 3, hiO A J 4, hiO A J 5, hiO A J 6, hiO A J 7, noO A 0, noO A 1, noO A 2, noO A 3, noO A 4, noO A 5, noO A 6, noO A 7] := by
 refine yA (E := E) (fn := Tryz.f104) 10 [.tmp 2] rfl rfl rfl rfl (by decide) rfl rfl ?_
 repeat' (first
  | (with_reducible first | apply zY | apply zT | apply zM | apply zN | apply zO | refine chk_ok (by kernel_rfl) ?_)
  | ((with_reducible first | apply zP | apply zQ | apply zR | apply zL) <;> intro h)
  | ((with_reducible show False); omega)
  | ((first | (with_reducible first | apply zW | apply zV | apply zU | apply zS | apply zX | show VX _ _ _ _ _ _ _ | show vstep _ _ _ _ _ | show vskip _ _ _ | show withV _ _) | ((with_reducible show endA _ _ _ _ _ _ _); simp -implicitDefEqProofs only [endA]) | (with_reducible first | refine zB default (by first | omega | (simp only [LN]; omega)) (by first | omega | (simp only [LN]; omega)) ?_ | refine zC default (by first | omega | (simp only [LN]; omega)) ?_ | refine And.intro (by first | decide | omega | assumption | (simp only [LN]; omega)) ?_) | ((with_reducible show pickE _ _ _); first | refine zA _ ⟨by omega, by rfl⟩ ?_ | refine zA _ (by rfl) ?_) | fail); try simp -dsimp -implicitDefEqProofs (maxSteps := 1000000) (disch := first | omega | (simp only [LN]; omega)) only [go_sem])
  | fail)
theorem dSize6 (A : Dv) (J : JT) (hn : A.n ≤ 8) : ACalls Tryz.prog 103 [.loc 0 0] [deO A 1 2 3 4, peO A, cuO A, liO A J 12, thO A 0 0 20, thO A 1 0 20, thO A 2 0 20, thO A 3 0 20, thO A 4 0 20, thO A 5 0 20, thO A 6 0 20, thO A 7 0 20, hiO A J 0, hiO A J 1, hiO A J 2, hiO A J 3, hiO A J 4, hiO A J 5, hiO A J 6, hiO A J 7, noO A 0, noO A 1, noO A 2, noO A 3, noO A 4, noO A 5, noO A 6, noO A 7] (.p (.v (.int .u64 ((64 * A.n : Nat) : Int)))) [deO A 1 2 3 4, peO A, cuO A, liO A J 12, thO A 0 0 20, thO A 1 0 20, thO A 2 0 20, thO A 3 0 20, thO A 4 0 20, thO A 5 0 20, thO A 6 0 20, thO A 7 0 20, hiO A J 0, hiO A J 1, hiO A J 2, hiO A J 3, hiO A J 4, hiO A J 5, hiO A J 6, hiO A J 7, noO A 0, noO A 1, noO A 2, noO A 3, noO A 4, noO A 5, noO A 6, noO A 7] := by
 refine yA (E := E) (fn := Tryz.f103) 7 [.tmp 2] rfl rfl rfl rfl (by decide) rfl rfl ?_
 have e1 : IntKind.u64.wrap (A.n : Int) = (A.n : Int) := by rw [IntKind.wrap_u64]; omega
 have e2 : IntKind.u64.wrap ((A.n : Int) * 64) = ((64 * A.n : Nat) : Int) := by rw [IntKind.wrap_u64]; omega
 repeat' (first
  | (with_reducible first | apply zY | apply zT | apply zM | apply zN | apply zO | refine chk_ok (by kernel_rfl) ?_)
  | ((with_reducible first | apply zP | apply zQ | apply zR | apply zL) <;> intro h)
  | ((with_reducible show False); omega)
  | ((first | (with_reducible first | apply zW | apply zV | apply zU | apply zS | apply zX | show VX _ _ _ _ _ _ _ | show vstep _ _ _ _ _ | show vskip _ _ _ | show withV _ _) | ((with_reducible show endA _ _ _ _ _ _ _); simp -implicitDefEqProofs only [endA]) | (with_reducible first | refine zB default (by first | omega | (simp only [LN, e1, e2]; omega)) (by first | omega | (simp only [LN, e1, e2]; omega)) ?_ | refine zC default (by first | omega | (simp only [LN, e1, e2]; omega)) ?_ | refine And.intro (by first | decide | omega | assumption | (simp only [LN, e1, e2]; omega)) ?_) | (with_reducible first | apply zG | apply zH | apply zI | apply hidePI_own) | ((with_reducible apply zJ); (first | exact dLines6 A J hn | fail)) | ((with_reducible show pickE _ _ _); first | refine zA _ ⟨by omega, by rfl⟩ ?_ | refine zA _ (by rfl) ?_) | fail); try simp -dsimp -implicitDefEqProofs (maxSteps := 1000000) (disch := first | omega | (simp only [LN, e1, e2]; omega)) only [go_sem, e1, e2])
  | fail)
theorem dThread6 (A : Dv) (J : JT) (k : Nat) (hk : k < 8) : ACalls Tryz.prog 10 [.loc 0 0, .p (.v (.int .i64 k))] [deO A 1 2 3 4, peO A, cuO A, liO A J 12, thO A 0 0 20, thO A 1 0 20, thO A 2 0 20, thO A 3 0 20, thO A 4 0 20, thO A 5 0 20, thO A 6 0 20, thO A 7 0 20, hiO A J 0, hiO A J 1, hiO A J 2, hiO A J 3, hiO A J 4, hiO A J 5, hiO A J 6, hiO A J 7, noO A 0, noO A 1, noO A 2, noO A 3, noO A 4, noO A 5, noO A 6, noO A 7] (.loc (4 + k) 0) [deO A 1 2 3 4, peO A, cuO A, liO A J 12, thO A 0 0 20, thO A 1 0 20, thO A 2 0 20, thO A 3 0 20, thO A 4 0 20, thO A 5 0 20, thO A 6 0 20, thO A 7 0 20, hiO A J 0, hiO A J 1, hiO A J 2, hiO A J 3, hiO A J 4, hiO A J 5, hiO A J 6, hiO A J 7, noO A 0, noO A 1, noO A 2, noO A 3, noO A 4, noO A 5, noO A 6, noO A 7] := by
 refine yA (E := E) (fn := Tryz.f10) 21 [.tmp 4] rfl rfl rfl rfl (by decide) rfl rfl ?_
 rcases lt8 hk with rfl | rfl | rfl | rfl | rfl | rfl | rfl | rfl
 all_goals
  repeat' (first
   | (with_reducible first | apply zY | apply zT | apply zM | apply zN | apply zO | refine chk_ok (by kernel_rfl) ?_)
   | ((with_reducible first | apply zP | apply zQ | apply zR | apply zL) <;> intro h)
   | ((with_reducible show False); omega)
   | ((first | (with_reducible first | apply zW | apply zV | apply zU | apply zS | apply zX | show VX _ _ _ _ _ _ _ | show vstep _ _ _ _ _ | show vskip _ _ _ | show withV _ _) | ((with_reducible show endA _ _ _ _ _ _ _); simp -implicitDefEqProofs only [endA]) | (with_reducible first | refine zB default (by first | omega | (simp only [LN]; omega)) (by first | omega | (simp only [LN]; omega)) ?_ | refine zC default (by first | omega | (simp only [LN]; omega)) ?_ | refine And.intro (by first | decide | omega | assumption | (simp only [LN]; omega)) ?_) | ((with_reducible show pickE _ _ _); first | refine zA _ ⟨by omega, by rfl⟩ ?_ | refine zA _ (by rfl) ?_) | fail); try simp -dsimp -implicitDefEqProofs (maxSteps := 1000000) (disch := first | omega | (simp only [LN]; omega)) only [go_sem])
   | fail)
def Dv.isW (A : Dv) (o : Int) : Bool := decide (o % 8 = 0) && decide (o < ((64 * A.n : Nat) : Int))
theorem tWord (A : Dv) (J : JT) (k : Nat) (hk : k < 8) (hn : A.n ≤ 8) (o : Int) (ho : 0 ≤ o ∧ o ≤ 18446744073709551615) : ACalls Tryz.prog 116 [.loc (4 + k) 0, .p (.v (.int .u64 o))] [deO A 1 2 3 4, peO A, cuO A, liO A J 12, thO A 0 0 20, thO A 1 0 20, thO A 2 0 20, thO A 3 0 20, thO A 4 0 20, thO A 5 0 20, thO A 6 0 20, thO A 7 0 20, hiO A J 0, hiO A J 1, hiO A J 2, hiO A J 3, hiO A J 4, hiO A J 5, hiO A J 6, hiO A J 7, noO A 0, noO A 1, noO A 2, noO A 3, noO A 4, noO A 5, noO A 6, noO A 7] (.p (.v (.bool (A.isW o)))) [deO A 1 2 3 4, peO A, cuO A, liO A J 12, thO A 0 0 20, thO A 1 0 20, thO A 2 0 20, thO A 3 0 20, thO A 4 0 20, thO A 5 0 20, thO A 6 0 20, thO A 7 0 20, hiO A J 0, hiO A J 1, hiO A J 2, hiO A J 3, hiO A J 4, hiO A J 5, hiO A J 6, hiO A J 7, noO A 0, noO A 1, noO A 2, noO A 3, noO A 4, noO A 5, noO A 6, noO A 7] := by
 refine yA (E := E) (fn := Tryz.f116) 17 [.tmp 4] rfl rfl rfl rfl (by decide) rfl rfl ?_
 have e1 : o.tmod 8 = o % 8 := Int.tmod_eq_emod_of_nonneg ho.1
 repeat' (first
  | (with_reducible first | apply zY | apply zT | apply zM | apply zN | apply zO | refine chk_ok (by kernel_rfl) ?_)
  | ((with_reducible first | apply zP | apply zQ | apply zR | apply zL) <;> intro h)
  | ((with_reducible show False); omega)
  | ((first | (with_reducible first | apply zW | apply zV | apply zU | apply zS | apply zX | show VX _ _ _ _ _ _ _ | show vstep _ _ _ _ _ | show vskip _ _ _ | show withV _ _) | ((with_reducible show endA _ _ _ _ _ _ _); simp -implicitDefEqProofs only [endA]) | (with_reducible first | refine zB default (by first | omega | (simp only [LN, e1]; omega)) (by first | omega | (simp only [LN, e1]; omega)) ?_ | refine zC default (by first | omega | (simp only [LN, e1]; omega)) ?_ | refine And.intro (by first | decide | omega | assumption | (simp only [LN, e1]; omega)) ?_) | (with_reducible first | apply zG | apply zH | apply zI | apply hidePI_own) | ((with_reducible apply zJ); (first | exact dSize6 A J hn | fail)) | ((with_reducible show pickE _ _ _); first | refine zA _ ⟨by omega, by rfl⟩ ?_ | refine zA _ (by rfl) ?_) | fail); try simp -dsimp -implicitDefEqProofs (maxSteps := 1000000) (disch := first | omega | (simp only [LN, e1]; omega)) only [go_sem, e1])
  | fail)
 all_goals (simp [Dv.isW, h])
end Go.Proofs.YtegekpjkbedngaaGreat
namespace Go.Proofs.YtegekpjkbedngaaGreat
set_option maxHeartbeats 4000000
set_option maxRecDepth 100000
open Go Go.Ab
attribute [local irreducible] callK callF loopQ vstep vskip pickE hideP
attribute [local go_sem] deO peO cuO liO thO hiO noO
theorem cnt_f {A : Dv} {k : Nat} {v : Bool} (h : (!A.off && v) = false) : A.cnt k v = A.onS k v := by
 cases ho : A.off <;> cases v <;> simp_all [Dv.cnt, Dv.onS]
theorem cntB_f {A : Dv} {v : Bool} (h : (!A.off && v) = false) : A.cntB v = false := by
 cases ho : A.off <;> cases v <;> simp_all [Dv.cntB]
theorem tCnt (A : Dv) (J : JT) (k : Nat) (hk : k < 8) (v : Bool) : ACalls Tryz.prog 113 [.loc (4 + k) 0, .p (.v (.bool v))] [deO A 1 2 3 4, peO A, cuO A, liO A J 12, thO A 0 0 20, thO A 1 0 20, thO A 2 0 20, thO A 3 0 20, thO A 4 0 20, thO A 5 0 20, thO A 6 0 20, thO A 7 0 20, hiO A J 0, hiO A J 1, hiO A J 2, hiO A J 3, hiO A J 4, hiO A J 5, hiO A J 6, hiO A J 7, noO A 0, noO A 1, noO A 2, noO A 3, noO A 4, noO A 5, noO A 6, noO A 7] (.p (.v (.bool (A.cntB v)))) [deO (A.cnt k v) 1 2 3 4, peO (A.cnt k v), cuO (A.cnt k v), liO (A.cnt k v) J 12, thO (A.cnt k v) 0 0 20, thO (A.cnt k v) 1 0 20, thO (A.cnt k v) 2 0 20, thO (A.cnt k v) 3 0 20, thO (A.cnt k v) 4 0 20, thO (A.cnt k v) 5 0 20, thO (A.cnt k v) 6 0 20, thO (A.cnt k v) 7 0 20, hiO (A.cnt k v) J 0, hiO (A.cnt k v) J 1, hiO (A.cnt k v) J 2, hiO (A.cnt k v) J 3, hiO (A.cnt k v) J 4, hiO (A.cnt k v) J 5, hiO (A.cnt k v) J 6, hiO (A.cnt k v) J 7, noO (A.cnt k v) 0, noO (A.cnt k v) 1, noO (A.cnt k v) 2, noO (A.cnt k v) 3, noO (A.cnt k v) 4, noO (A.cnt k v) 5, noO (A.cnt k v) 6, noO (A.cnt k v) 7] := by
 refine yA (E := E) (fn := Tryz.f113) 42 [.tmp 4] rfl rfl rfl rfl (by decide) rfl rfl ?_
 by_cases hv : (!A.off && v) = true
 ·have kn := tOn1 A J _ hk v hv
  have kf := tFail { A with off := true } J _ hk 3
  repeat' (first
   | (with_reducible first | apply zY | apply zT | apply zM | apply zN | apply zO | refine chk_ok (by kernel_rfl) ?_)
   | ((with_reducible first | apply zP | apply zQ | apply zR | apply zL) <;> intro h)
   | ((with_reducible show False); omega)
   | ((first | (with_reducible first | apply zW | apply zV | apply zU | apply zS | apply zX | show VX _ _ _ _ _ _ _ | show vstep _ _ _ _ _ | show vskip _ _ _ | show withV _ _) | ((with_reducible show endA _ _ _ _ _ _ _); simp -implicitDefEqProofs only [endA]) | (with_reducible first | refine zB default (by first | omega | (simp only [LN]; omega)) (by first | omega | (simp only [LN]; omega)) ?_ | refine zC default (by first | omega | (simp only [LN]; omega)) ?_ | refine And.intro (by first | decide | omega | assumption | (simp only [LN]; omega)) ?_) | (with_reducible first | apply zG | apply zH | apply zI | apply hidePI_own) | ((with_reducible apply zJ); (first | exact kn | exact kf | fail)) | ((with_reducible show pickE _ _ _); first | refine zA _ ⟨by omega, by rfl⟩ ?_ | refine zA _ (by rfl) ?_) | fail); try simp -dsimp -implicitDefEqProofs (maxSteps := 1000000) (disch := first | omega | (simp only [LN]; omega)) only [go_sem])
   | fail)
  all_goals (simp at hv; simp [Dv.cnt, Dv.cntB, Dv.fail, jk, *])
 ·simp only [Bool.not_eq_true] at hv
  rw [cnt_f hv, cntB_f hv]
  have kn := tOn0 A J _ hk v hv
  repeat' (first
   | (with_reducible first | apply zY | apply zT | apply zM | apply zN | apply zO | refine chk_ok (by kernel_rfl) ?_)
   | ((with_reducible first | apply zP | apply zQ | apply zR | apply zL) <;> intro h)
   | ((with_reducible show False); omega)
   | ((first | (with_reducible first | apply zW | apply zV | apply zU | apply zS | apply zX | show VX _ _ _ _ _ _ _ | show vstep _ _ _ _ _ | show vskip _ _ _ | show withV _ _) | ((with_reducible show endA _ _ _ _ _ _ _); simp -implicitDefEqProofs only [endA]) | (with_reducible first | refine zB default (by first | omega | (simp only [LN]; omega)) (by first | omega | (simp only [LN]; omega)) ?_ | refine zC default (by first | omega | (simp only [LN]; omega)) ?_ | refine And.intro (by first | decide | omega | assumption | (simp only [LN]; omega)) ?_) | (with_reducible first | apply zG | apply zH | apply zI | apply hidePI_own) | ((with_reducible apply zJ); (first | exact kn | fail)) | ((with_reducible show pickE _ _ _); first | refine zA _ ⟨by omega, by rfl⟩ ?_ | refine zA _ (by rfl) ?_) | fail); try simp -dsimp -implicitDefEqProofs (maxSteps := 1000000) (disch := first | omega | (simp only [LN]; omega)) only [go_sem])
   | fail)
end Go.Proofs.YtegekpjkbedngaaGreat
namespace Go.Proofs.YtegekpjkbedngaaGreat
open Go Go.Ab
attribute [local irreducible] callK callF loopQ vstep vskip pickE hideP
set_option maxRecDepth 100000
attribute [local go_sem] deO peO cuO liO thO hiO noO
def Dv.put (A : Dv) (r : Nat) (o v : Int) : Dv := { A with hist := upd A.hist r (A.hist r ++ [(o, v)]), cur := A.cur.set (o / 8).toNat v }
def jput (A : Dv) (J : JT) (r : Nat) (g : Bool) : JT := fun i => if i = r then (match g with | true => jk A J r | false => []) else J i
theorem jk_put (A : Dv) (J : JT) (r i : Nat) (o v : Int) (g : Bool) : jk (A.put r o v) (jput A J r g) i = if i = r then (match g with | true => jk A J r | false => []) else jk A J i := by
 unfold jk Dv.put upd jput
 by_cases h : i = r
 ·simp only [h, if_true]
  cases hh : A.hist r <;> cases g <;> simp [hh, jk]
 ·simp only [if_neg h]
theorem drop_row (a b : List (Int × Int)) : (a.map eWr ++ b.map eWr).drop a.length = b.map eWr := by
 rw [List.drop_append_of_le_length (by simp), List.drop_of_length_le (by simp), List.nil_append]
theorem put_p (A : Dv) (r : Nat) (o v : Int) : (A.put r o v).n = A.n ∧ (A.put r o v).per = A.per ∧ (A.put r o v).cur = A.cur.set (o / 8).toNat v ∧ (A.put r o v).done = A.done ∧ (A.put r o v).err = A.err ∧ (A.put r o v).note = A.note ∧ (A.put r o v).off = A.off ∧ (A.put r o v).armed = A.armed ∧ (A.put r o v).left = A.left ∧ (A.put r o v).ex = A.ex := ⟨rfl, rfl, rfl, rfl, rfl, rfl, rfl, rfl, rfl, rfl⟩
theorem put_hist (A : Dv) (r i : Nat) (o v : Int) : (A.put r o v).hist i = if i = r then A.hist r ++ [(o, v)] else A.hist i := rfl
end Go.Proofs.YtegekpjkbedngaaGreat
namespace Go.Proofs.YtegekpjkbedngaaGreat
open Go Go.Ab
attribute [local irreducible] callK callF loopQ vstep vskip pickE hideP
set_option maxRecDepth 100000
attribute [local go_sem] deO peO cuO liO thO hiO noO
theorem fail_p (A : Dv) (k : Nat) (e : Int) : (A.fail k e).n = A.n ∧ (A.fail k e).per = A.per ∧ (A.fail k e).cur = A.cur ∧ (A.fail k e).hist = A.hist ∧ (A.fail k e).done = A.done ∧ (A.fail k e).note = A.note ∧ (A.fail k e).off = A.off := by
 unfold Dv.fail; split <;> exact ⟨rfl, rfl, rfl, rfl, rfl, rfl, rfl⟩
theorem cnt_p (A : Dv) (k : Nat) (v : Bool) : (A.cnt k v).n = A.n ∧ (A.cnt k v).per = A.per ∧ (A.cnt k v).cur = A.cur ∧ (A.cnt k v).hist = A.hist ∧ (A.cnt k v).done = A.done ∧ (A.cnt k v).note = A.note := by
 unfold Dv.cnt
 split
 ·obtain ⟨h1, h2, h3, h4, h5, h6, _⟩ := fail_p A k 3; exact ⟨h1, h2, h3, h4, h5, h6⟩
 ·split
  ·obtain ⟨h1, h2, h3, h4, h5, h6, _⟩ := fail_p A k 2; exact ⟨h1, h2, h3, h4, h5, h6⟩
  ·split
   ·split
    ·obtain ⟨h1, h2, h3, h4, h5, h6, _⟩ := fail_p { A with off := true } k 3; exact ⟨h1, h2, h3, h4, h5, h6⟩
    ·exact ⟨rfl, rfl, rfl, rfl, rfl, rfl⟩
   ·exact ⟨rfl, rfl, rfl, rfl, rfl, rfl⟩
theorem WF.cnt {A : Dv} (h : WF A) (k : Nat) (v : Bool) : WF (A.cnt k v) := by
 obtain ⟨e1, e2, e3, e4, e5, e6⟩ := cnt_p A k v
 exact ⟨by rw [e1]; exact h.n0, by rw [e1]; exact h.n6, by rw [e1, e2]; exact h.per, by rw [e1, e3]; exact h.cur, by rw [e4]; exact h.hist, by rw [e1, e4]; exact h.top, by rw [e4, e5]; exact h.len, h.jl⟩
theorem jk_cnt (A : Dv) (J : JT) (k r : Nat) (v : Bool) : jk (A.cnt k v) J r = jk A J r := by
 unfold jk; rw [(cnt_p A k v).2.2.2.1]
def Dv.store (A : Dv) (k : Nat) (o v : Int) : Dv := if A.cntB (A.isW o) = true then (A.cnt k (A.isW o)).put (o / 64).toNat o v else A.cnt k (A.isW o)
def jsto (A : Dv) (J : JT) (k : Nat) (o : Int) (g : Bool) : JT := if A.cntB (A.isW o) = true then jput (A.cnt k (A.isW o)) J (o / 64).toNat g else J
theorem isW_of {A : Dv} {o : Int} (h : A.isW o = true) (h0 : 0 ≤ o) : ((o / 64).toNat < A.n) ∧ o / 64 = ((o / 64).toNat : Int) ∧ o % 8 = 0 := by
 simp [Dv.isW] at h
 omega
theorem cntB_of {A : Dv} {v : Bool} (h : A.cntB v = true) : v = true := by
 simp [Dv.cntB] at h; exact h.2.1
end Go.Proofs.YtegekpjkbedngaaGreat
