/- Contracts of functions of this program, and the plain facts that they rest on. No conditions. -/
import Derived.Test.YtlldhofcdfejnaaEnv2
import Derived.Test.YtlldhofcdfejnaaAc4
set_option linter.unusedSimpArgs false
set_option linter.unusedVariables false
namespace Go.Proofs.Ytlldhofcdfejnaa
open Go Go.Ab
attribute [local irreducible] callK callF loopQ vstep vskip pickE hideP
set_option maxRecDepth 100000
def eU (x : Int) : PV := .v (.int .u64 x)
def eWr (x : Int × Int) : PV := .agg [.v (.int .u64 x.1), .v (.int .u64 x.2)]
def upd {α : Type} (f : Nat → α) (r : Nat) (x : α) : Nat → α := fun i => if i = r then x else f i
theorem lt8 {k : Nat} (h : k < 8) : k = 0 ∨ k = 1 ∨ k = 2 ∨ k = 3 ∨ k = 4 ∨ k = 5 ∨ k = 6 ∨ k = 7 := by omega
theorem lt6 {k : Nat} (h : k < 6) : k = 0 ∨ k = 1 ∨ k = 2 ∨ k = 3 ∨ k = 4 ∨ k = 5 := by omega
@[go_sem high] theorem nthT4 {a0 a1 a2 a3 : Option Ob} {e : Nat → Int} {k : Nat} {l : List (Option Ob)} (hk : k < 8) : nth (a0 :: a1 :: a2 :: a3 :: some (.var [.loc 0 0, .p (.v (.int .i64 0)), .p (.v (.int .i64 (e 0))), .mref 18]) :: some (.var [.loc 0 0, .p (.v (.int .i64 1)), .p (.v (.int .i64 (e 1))), .mref 19]) :: some (.var [.loc 0 0, .p (.v (.int .i64 2)), .p (.v (.int .i64 (e 2))), .mref 20]) :: some (.var [.loc 0 0, .p (.v (.int .i64 3)), .p (.v (.int .i64 (e 3))), .mref 21]) :: some (.var [.loc 0 0, .p (.v (.int .i64 4)), .p (.v (.int .i64 (e 4))), .mref 22]) :: some (.var [.loc 0 0, .p (.v (.int .i64 5)), .p (.v (.int .i64 (e 5))), .mref 23]) :: some (.var [.loc 0 0, .p (.v (.int .i64 6)), .p (.v (.int .i64 (e 6))), .mref 24]) :: some (.var [.loc 0 0, .p (.v (.int .i64 7)), .p (.v (.int .i64 (e 7))), .mref 25]) :: l) (4 + k) = some (some (.var [.loc 0 0, .p (.v (.int .i64 k)), .p (.v (.int .i64 (e k))), .mref (18 + k)])) := by
 rcases lt8 hk with rfl | rfl | rfl | rfl | rfl | rfl | rfl | rfl <;> rfl
@[go_sem high] theorem setT4 {a0 a1 a2 a3 : Option Ob} {e : Nat → Int} {k : Nat} {x : Int} {l : List (Option Ob)} (hk : k < 8) : setL (a0 :: a1 :: a2 :: a3 :: some (.var [.loc 0 0, .p (.v (.int .i64 0)), .p (.v (.int .i64 (e 0))), .mref 18]) :: some (.var [.loc 0 0, .p (.v (.int .i64 1)), .p (.v (.int .i64 (e 1))), .mref 19]) :: some (.var [.loc 0 0, .p (.v (.int .i64 2)), .p (.v (.int .i64 (e 2))), .mref 20]) :: some (.var [.loc 0 0, .p (.v (.int .i64 3)), .p (.v (.int .i64 (e 3))), .mref 21]) :: some (.var [.loc 0 0, .p (.v (.int .i64 4)), .p (.v (.int .i64 (e 4))), .mref 22]) :: some (.var [.loc 0 0, .p (.v (.int .i64 5)), .p (.v (.int .i64 (e 5))), .mref 23]) :: some (.var [.loc 0 0, .p (.v (.int .i64 6)), .p (.v (.int .i64 (e 6))), .mref 24]) :: some (.var [.loc 0 0, .p (.v (.int .i64 7)), .p (.v (.int .i64 (e 7))), .mref 25]) :: l) (4 + k) (some (.var [.loc 0 0, .p (.v (.int .i64 k)), .p (.v (.int .i64 x)), .mref (18 + k)])) = a0 :: a1 :: a2 :: a3 :: some (.var [.loc 0 0, .p (.v (.int .i64 0)), .p (.v (.int .i64 (upd e k x 0))), .mref 18]) :: some (.var [.loc 0 0, .p (.v (.int .i64 1)), .p (.v (.int .i64 (upd e k x 1))), .mref 19]) :: some (.var [.loc 0 0, .p (.v (.int .i64 2)), .p (.v (.int .i64 (upd e k x 2))), .mref 20]) :: some (.var [.loc 0 0, .p (.v (.int .i64 3)), .p (.v (.int .i64 (upd e k x 3))), .mref 21]) :: some (.var [.loc 0 0, .p (.v (.int .i64 4)), .p (.v (.int .i64 (upd e k x 4))), .mref 22]) :: some (.var [.loc 0 0, .p (.v (.int .i64 5)), .p (.v (.int .i64 (upd e k x 5))), .mref 23]) :: some (.var [.loc 0 0, .p (.v (.int .i64 6)), .p (.v (.int .i64 (upd e k x 6))), .mref 24]) :: some (.var [.loc 0 0, .p (.v (.int .i64 7)), .p (.v (.int .i64 (upd e k x 7))), .mref 25]) :: l := by
 rcases lt8 hk with rfl | rfl | rfl | rfl | rfl | rfl | rfl | rfl <;> rfl
@[go_sem high] theorem elN8_4 {k : Nat} {l : List Nat} (hk : k < 8) : elN (4 + k) (4 :: 5 :: 6 :: 7 :: 8 :: 9 :: 10 :: 11 :: l) = true := by
 rcases lt8 hk with rfl | rfl | rfl | rfl | rfl | rfl | rfl | rfl <;> rfl
@[go_sem ↓ high] theorem posN8_4 {k i : Nat} {l : List Nat} (hk : k < 8) : posN (4 :: 5 :: 6 :: 7 :: 8 :: 9 :: 10 :: 11 :: l) (4 + k) i = i + k := by
 rcases lt8 hk with rfl | rfl | rfl | rfl | rfl | rfl | rfl | rfl <;> rfl
@[go_sem high] theorem nthN_4_4 {a0 a1 a2 a3 k : Nat} {l : List Nat} (hk : k < 8) : nth (a0 :: a1 :: a2 :: a3 :: 4 :: 5 :: 6 :: 7 :: 8 :: 9 :: 10 :: 11 :: l) (4 + k) = some (4 + k) := by
 rcases lt8 hk with rfl | rfl | rfl | rfl | rfl | rfl | rfl | rfl <;> rfl
@[go_sem high] theorem elN8_d {k : Nat} {l : List Nat} (hk : k < 8) : elN (4 + k) (1 :: 2 :: 3 :: 4 :: 5 :: 6 :: 7 :: 8 :: 9 :: 10 :: 11 :: l) = true := by
 rcases lt8 hk with rfl | rfl | rfl | rfl | rfl | rfl | rfl | rfl <;> rfl
@[go_sem ↓ high] theorem posN8_d {k : Nat} {l : List Nat} (hk : k < 8) : posN (0 :: 1 :: 2 :: 3 :: 4 :: 5 :: 6 :: 7 :: 8 :: 9 :: 10 :: 11 :: l) (4 + k) 0 = 4 + k := by
 rcases lt8 hk with rfl | rfl | rfl | rfl | rfl | rfl | rfl | rfl <;> rfl
structure Dv where
 n : Nat
 per : List Int
 cur : List Int
 hist : Nat → List (Int × Int)
 done : Nat → Int
 err : Nat → Int
 note : Nat → Value → Option Int
 off : Bool
 armed : Bool
 left : Int
 ex : Int
def jk (A : Dv) (J : Nat → List (Int × Int)) (r : Nat) : List (Int × Int) := match A.hist r with
 | [] => []
 | _ :: _ => J r
def deO (A : Dv) (p c l t : Nat) : Ob := .var [.sl p 1 0 (8 * A.n), .sl c 1 0 (8 * A.n), .sl l 2 0 A.n, .loc t 0, .loc (t + 1) 0, .loc (t + 2) 0, .loc (t + 3) 0, .loc (t + 4) 0, .loc (t + 5) 0, .loc (t + 6) 0, .loc (t + 7) 0, .p (.v (.bool A.off)), .p (.v (.bool A.armed)), .p (.v (.int .i64 A.left)), .p (.v (.int .u64 A.ex))]
def peO (A : Dv) : Ob := .arr 1 (A.per.map eU)
def cuO (A : Dv) : Ob := .arr 1 (A.cur.map eU)
def liO (A : Dv) (J : Nat → List (Int × Int)) (h : Nat) : Ob := .pvar (2 * A.n) [.p (.v (.int .u64 (A.done 0))), .sl h 2 (jk A J 0).length (A.hist 0).length, .p (.v (.int .u64 (A.done 1))), .sl (h + 1) 2 (jk A J 1).length (A.hist 1).length, .p (.v (.int .u64 (A.done 2))), .sl (h + 2) 2 (jk A J 2).length (A.hist 2).length, .p (.v (.int .u64 (A.done 3))), .sl (h + 3) 2 (jk A J 3).length (A.hist 3).length, .p (.v (.int .u64 (A.done 4))), .sl (h + 4) 2 (jk A J 4).length (A.hist 4).length, .p (.v (.int .u64 (A.done 5))), .sl (h + 5) 2 (jk A J 5).length (A.hist 5).length]
def thO (A : Dv) (k d m : Nat) : Ob := .var [.loc d 0, .p (.v (.int .i64 k)), .p (.v (.int .i64 (A.err k))), .mref (m + k)]
def hiO (A : Dv) (J : Nat → List (Int × Int)) (r : Nat) : Ob := .arr 2 ((jk A J r).map eWr ++ (A.hist r).map eWr)
def noO (A : Dv) (k : Nat) : Ob := .mp (some .i64) (.i .u64 (A.note k))
def appL (ws : List Int) (l : List (Int × Int)) : List Int := l.foldl (fun ws s => ws.set (s.1 / 8).toNat s.2) ws
theorem appL_len (l : List (Int × Int)) : ∀ ws : List Int, (appL ws l).length = ws.length := by
 unfold appL
 induction l with
 | nil => intro ws; rfl
 | cons x l ih => intro ws; rw [List.foldl_cons, ih, List.length_set]
theorem appL_app (ws : List Int) (a b : List (Int × Int)) : appL ws (a ++ b) = appL (appL ws a) b := by unfold appL; rw [List.foldl_append]
def contS (A : Dv) (f : Nat → Nat) : List Int := (List.range (8 * A.n)).map fun j => (appL A.per ((A.hist (j / 8)).take (f (j / 8)))).getD j 0
theorem contS_len (A : Dv) (f : Nat → Nat) : (contS A f).length = 8 * A.n := by simp [contS]
structure WF (A : Dv) : Prop where
 n0 : 0 < A.n
 n6 : A.n ≤ 6
 per : A.per.length = 8 * A.n
 cur : A.cur.length = 8 * A.n
 hist : ∀ r, r < 6 → ∀ x, x ∈ A.hist r → ((r : Int) = x.1 / 64 ∧ x.1 % 8 = 0 ∧ 0 ≤ x.1) ∧ 0 ≤ x.2 ∧ x.2 ≤ 18446744073709551615
 top : ∀ r, A.n ≤ r → r < 6 → A.hist r = []
 len : ∀ r, r < 6 → 0 ≤ A.done r ∧ A.done r + (A.hist r).length ≤ 1000000000
 jl : True
theorem appL_off (l : List (Int × Int)) (j : Nat) (h : ∀ x, x ∈ l → (x.1 / 8).toNat ≠ j) : ∀ ws : List Int, (appL ws l).getD j 0 = ws.getD j 0 := by
 induction l with
 | nil => intro ws; rfl
 | cons x l ih =>
  intro ws
  have h1 := ih (fun y hy => h y (List.mem_cons_of_mem _ hy)) (ws.set (x.1 / 8).toNat x.2)
  have e : appL ws (x :: l) = appL (ws.set (x.1 / 8).toNat x.2) l := rfl
  rw [e, h1]
  simp only [List.getD_eq_getElem?_getD]
  rw [List.getElem?_set_ne (h x List.mem_cons_self)]
theorem contS_get (A : Dv) (f : Nat → Nat) (j : Nat) (hj : j < 8 * A.n) : (contS A f).getD j 0 = (appL A.per ((A.hist (j / 8)).take (f (j / 8)))).getD j 0 := by
 unfold contS; simp [List.getD_eq_getElem?_getD, hj]
theorem list_getD {a b : List Int} (hl : a.length = b.length) (h : ∀ j, j < a.length → a.getD j 0 = b.getD j 0) : a = b := by
 refine List.ext_getElem hl fun i h1 h2 => ?_
 have := h i h1
 simpa [List.getD_eq_getElem?_getD, h1, h2] using this
end Go.Proofs.Ytlldhofcdfejnaa