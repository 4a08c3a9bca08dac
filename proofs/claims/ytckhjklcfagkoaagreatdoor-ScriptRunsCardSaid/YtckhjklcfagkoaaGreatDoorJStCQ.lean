/- Contracts of functions of this program, and the plain facts that they rest on. No conditions. -/
import Derived.Test.YtckhjklcfagkoaaGreatDoorCloneLQ
import Derived.Test.YtckhjklcfagkoaaGreatDoorEnv2
import Derived.Test.YtckhjklcfagkoaaGreatDoorAc4
set_option linter.unusedSimpArgs false
set_option linter.unusedVariables false
namespace Go.Proofs.YtckhjklcfagkoaaGreatDoor
open Go Go.Ab
set_option maxRecDepth 100000
theorem own_hole [Glob] {Z : Nat → Prop} {lb : Lb} {kk : Option IntKind} {ek : EK} {w : World} (o : Own Z lb [some (.mp kk ek)] w) : Own Z (lb ++ [none]) [some (.mp kk ek), none] w := by
 have hl := o.len
 simp only [List.length_cons, List.length_nil, Nat.zero_add] at hl
 refine ⟨by simp [hl], fun i ob hi => ?_, fun i hi => ?_, fun i j o1 o2 b hi hj h1 h2 h3 h4 => ?_, o.zlt⟩
 ·match i with
  | 0 =>
   obtain ⟨x, h1, h2⟩ := o.obj 0 ob hi
   refine ⟨x, by rw [List.getElem?_append_left (by omega)]; exact h1, ?_⟩
   simp only [List.getElem?_cons_zero, Option.some.injEq] at hi
   subst hi
   cases x with
   | none => exact h2.elim
   | some b => exact h2
  | 1 => simp at hi
  | i + 2 => simp at hi
 ·match i with
  | 0 => simp at hi
  | 1 => rw [List.getElem?_append_right (by omega), hl]; rfl
  | i + 2 => simp at hi
 ·match i, j with
  | 0, 0 => rfl
  | 0, 1 => simp at hj
  | 0, j + 2 => simp at hj
  | 1, _ => simp at hi
  | i + 2, _ => simp at hi
theorem ac_clone [Glob] {P : Program} {f : FuncId} (hc : Callable P f) (h : ∀ (b : Nat) (es : Array MapEntry) (clock : Nat) (w : World), w.heap[b]? = some (.map es clock) → Calls P f #[.map (some b)] w fun e w' => e = .returned (.map (some w.heap.size)) ∧ w' = w.alloc (.map es clock)) (kk : Option IntKind) (ek : EK) :
  ACalls P f [.mref 0] [.mp kk ek] (.mref 1) [.mp kk ek, .mp kk ek] := by
 refine ⟨hc, by simp, fun Z lb w vals o hv => ?_⟩
 simp only [AReps, ARep] at hv
 obtain ⟨u1, _, rfl, ⟨b, hb, rfl⟩, rfl⟩ := hv
 have o := o
 obtain ⟨x, hx, hob⟩ := o.obj 0 (.mp kk ek) rfl
 rw [hb] at hx
 simp only [Option.some.injEq] at hx
 subst hx
 obtain ⟨hz, hlt, es, clock, hh, hM⟩ := hob
 have hl := o.len
 simp only [List.map_cons, List.map_nil, List.length_cons, List.length_nil, Nat.zero_add] at hl
 refine (h b es clock w hh).mono ?_
 rintro e' w' ⟨rfl, rfl⟩
 obtain ⟨lb', st, own, hb'⟩ := (own_hole o).new (r := 1) rfl (ob := .map es clock) (o' := .mp kk ek) (fun lb' st hz2 => ⟨hz2, by simp, es, clock, alloc_heap_new, hM⟩)
 have get : ∀ (i : Nat) x, (lb ++ [none])[i]? = some (some x) → lb[i]? = some (some x) := fun i x hi => by
  rcases Nat.lt_or_ge i lb.length with h | h
  ·rwa [List.getElem?_append_left h] at hi
  ·rw [List.getElem?_append_right h] at hi
   match i - lb.length, hi with
   | 0, hi => simp at hi
   | j + 1, hi => simp at hi
 have put : ∀ (i : Nat) x, lb[i]? = some (some x) → (lb ++ [none])[i]? = some (some x) := fun i x hi => by
  rw [List.getElem?_append_left (List.getElem?_eq_some_iff.1 hi).1]; exact hi
 refine ⟨.map (some w.heap.size), Z, lb', rfl, own, by simp only [ARep]; exact ⟨_, hb', rfl⟩, st.os, st.tape, st.output, st.size, st.keep, st.z1, fun c hc hlt => ?_, st.bs, fun c hc hn => st.hp c hc (fun i hi => hn i (get i _ hi)), fun i c hi => ?_, fun i x hi hx => st.le i x (put i x hx)⟩
 ·rcases st.z2 c hc hlt with h | ⟨i, hi⟩
  ·exact .inl h
  ·exact .inr ⟨i, get i _ hi⟩
 ·rcases st.fresh i c hi with ⟨j, hj⟩ | h
  ·exact .inl ⟨j, get j _ hj⟩
  ·exact .inr h
theorem mClone (kk : Option IntKind) (ek : EK) : ACalls Tryz.prog 65 [.mref 0] [.mp kk ek] (.mref 1) [.mp kk ek, .mp kk ek] :=
 ac_clone ⟨_, rfl, rfl, by decide⟩ (fun b es clock w hb => AnyW.maps_Clone Tryz.cloneM b es clock w hb) kk ek
end Go.Proofs.YtckhjklcfagkoaaGreatDoor
namespace Go.Proofs.YtckhjklcfagkoaaGreatDoor
open Go Go.Ab
attribute [local irreducible] callK callF loopQ vstep vskip pickE hideP
set_option maxRecDepth 100000
def eU (x : Int) : PV := .v (.int .u64 x)
def eWr (x : Int × Int) : PV := .agg [.v (.int .u64 x.1), .v (.int .u64 x.2)]
def upd {α : Type} (f : Nat → α) (r : Nat) (x : α) : Nat → α := fun i => if i = r then x else f i
theorem lt8 {k : Nat} (h : k < 8) : k = 0 ∨ k = 1 ∨ k = 2 ∨ k = 3 ∨ k = 4 ∨ k = 5 ∨ k = 6 ∨ k = 7 := by omega
theorem lt6 {k : Nat} (h : k < 6) : k = 0 ∨ k = 1 ∨ k = 2 ∨ k = 3 ∨ k = 4 ∨ k = 5 := by omega
@[go_sem high] theorem nthT4 {a0 a1 a2 a3 : Option Ob} {e : Nat → Int} {k : Nat} {l : List (Option Ob)} (hk : k < 8) : nth (a0 :: a1 :: a2 :: a3 :: some (.var [.loc 0 0, .p (.v (.int .i64 0)), .p (.v (.int .i64 (e 0))), .mref 18]) :: some (.var [.loc 0 0, .p (.v (.int .i64 1)), .p (.v (.int .i64 (e 1))), .mref 19]) :: some (.var [.loc 0 0, .p (.v (.int .i64 2)), .p (.v (.int .i64 (e 2))), .mref 20]) :: some (.var [.loc 0 0, .p (.v (.int .i64 3)), .p (.v (.int .i64 (e 3))), .mref 21]) :: some (.var [.loc 0 0, .p (.v (.int .i64 4)), .p (.v (.int .i64 (e 4))), .mref 22]) :: some (.var [.loc 0 0, .p (.v (.int .i64 5)), .p (.v (.int .i64 (e 5))), .mref 23]) :: some (.var [.loc 0 0, .p (.v (.int .i64 6)), .p (.v (.int .i64 (e 6))), .mref 24]) :: some (.var [.loc 0 0, .p (.v (.int .i64 7)), .p (.v (.int .i64 (e 7))), .mref 25]) :: l) (4 + k) = some (some (.var [.loc 0 0, .p (.v (.int .i64 k)), .p (.v (.int .i64 (e k))), .mref (18 + k)])) := by
 rcases lt8 hk with rfl | rfl | rfl | rfl | rfl | rfl | rfl | rfl <;> rfl
@[go_sem high] theorem setT4 {a0 a1 a2 a3 : Option Ob} {e : Nat → Int} {k : Nat} {x : Int} {l : List (Option Ob)} (hk : k < 8) : setL (a0 :: a1 :: a2 :: a3 :: some (.var [.loc 0 0, .p (.v (.int .i64 0)), .p (.v (.int .i64 (e 0))), .mref 18]) :: some (.var [.loc 0 0, .p (.v (.int .i64 1)), .p (.v (.int .i64 (e 1))), .mref 19]) :: some (.var [.loc 0 0, .p (.v (.int .i64 2)), .p (.v (.int .i64 (e 2))), .mref 20]) :: some (.var [.loc 0 0, .p (.v (.int .i64 3)), .p (.v (.int .i64 (e 3))), .mref 21]) :: some (.var [.loc 0 0, .p (.v (.int .i64 4)), .p (.v (.int .i64 (e 4))), .mref 22]) :: some (.var [.loc 0 0, .p (.v (.int .i64 5)), .p (.v (.int .i64 (e 5))), .mref 23]) :: some (.var [.loc 0 0, .p (.v (.int .i64 6)), .p (.v (.int .i64 (e 6))), .mref 24]) :: some (.var [.loc 0 0, .p (.v (.int .i64 7)), .p (.v (.int .i64 (e 7))), .mref 25]) :: l) (4 + k) (some (.var [.loc 0 0, .p (.v (.int .i64 k)), .p (.v (.int .i64 x)), .mref (18 + k)])) = a0 :: a1 :: a2 :: a3 :: some (.var [.loc 0 0, .p (.v (.int .i64 0)), .p (.v (.int .i64 (upd e k x 0))), .mref 18]) :: some (.var [.loc 0 0, .p (.v (.int .i64 1)), .p (.v (.int .i64 (upd e k x 1))), .mref 19]) :: some (.var [.loc 0 0, .p (.v (.int .i64 2)), .p (.v (.int .i64 (upd e k x 2))), .mref 20]) :: some (.var [.loc 0 0, .p (.v (.int .i64 3)), .p (.v (.int .i64 (upd e k x 3))), .mref 21]) :: some (.var [.loc 0 0, .p (.v (.int .i64 4)), .p (.v (.int .i64 (upd e k x 4))), .mref 22]) :: some (.var [.loc 0 0, .p (.v (.int .i64 5)), .p (.v (.int .i64 (upd e k x 5))), .mref 23]) :: some (.var [.loc 0 0, .p (.v (.int .i64 6)), .p (.v (.int .i64 (upd e k x 6))), .mref 24]) :: some (.var [.loc 0 0, .p (.v (.int .i64 7)), .p (.v (.int .i64 (upd e k x 7))), .mref 25]) :: l := by
 rcases lt8 hk with rfl | rfl | rfl | rfl | rfl | rfl | rfl | rfl <;> rfl
@[go_sem high] theorem elN8_4 {k : Nat} {l : List Nat} (hk : k < 8) : elN (4 + k) (4 :: 5 :: 6 :: 7 :: 8 :: 9 :: 10 :: 11 :: l) = true := by
 rcases lt8 hk with rfl | rfl | rfl | rfl | rfl | rfl | rfl | rfl <;> rfl
@[go_sem ↓ high] theorem posN8_4 {k i : Nat} {l : List Nat} (hk : k < 8) : posN (4 :: 5 :: 6 :: 7 :: 8 :: 9 :: 10 :: 11 :: l) (4 + k) i = i + k := by
 rcases lt8 hk with rfl | rfl | rfl | rfl | rfl | rfl | rfl | rfl <;> rfl
@[go_sem high] theorem nthN_4_4 {a0 a1 a2 a3 k : Nat} {l : List Nat} (hk : k < 8) : nth (a0 :: a1 :: a2 :: a3 :: 4 :: 5 :: 6 :: 7 :: 8 :: 9 :: 10 :: 11 :: l) (4 + k) = some (4 + k) := by
 rcases lt8 hk with rfl | rfl | rfl | rfl | rfl | rfl | rfl | rfl <;> rfl
@[go_sem high] theorem elN8_d {k : Nat} {l : List Nat} (hk : k < 8) : elN (4 + k) (1 :: 2 :: 3 :: 4 :: 5 :: 6 :: 7 :: 8 :: 9 :: 10 :: 11 :: l) = true := by
 rcases lt8 hk with rfl | rfl | rfl | rfl | rfl | rfl | rfl | rfl <;> rfl
@[go_sem ↓ high] theorem posN8_d {k : Nat} {l : List Nat} (hk : k < 8) : posN (0 :: 1 :: 2 :: 3 :: 4 :: 5 :: 6 :: 7 :: 8 :: 9 :: 10 :: 11 :: l) (4 + k) 0 = 4 + k := by
 rcases lt8 hk with rfl | rfl | rfl | rfl | rfl | rfl | rfl | rfl <;> rfl
structure Dv where
 n : Nat
 per : List Int
 cur : List Int
 hist : Nat → List (Int × Int)
 done : Nat → Int
 err : Nat → Int
 note : Nat → Value → Option Int
 off : Bool
 armed : Bool
 left : Int
 ex : Int
abbrev JT := Nat → List (Int × Int)
abbrev MT := Nat → List (Nat × Int)
def jk (A : Dv) (J : JT) (r : Nat) : List (Int × Int) := match A.hist r with
 | [] => []
 | _ :: _ => J r
def deO (A : Dv) (p c l t : Nat) : Ob := .var [.sl p 1 0 (8 * A.n), .sl c 1 0 (8 * A.n), .sl l 2 0 A.n, .loc t 0, .loc (t + 1) 0, .loc (t + 2) 0, .loc (t + 3) 0, .loc (t + 4) 0, .loc (t + 5) 0, .loc (t + 6) 0, .loc (t + 7) 0, .p (.v (.bool A.off)), .p (.v (.bool A.armed)), .p (.v (.int .i64 A.left)), .p (.v (.int .u64 A.ex))]
def peO (A : Dv) : Ob := .arr 1 (A.per.map eU)
def cuO (A : Dv) : Ob := .arr 1 (A.cur.map eU)
def liO (A : Dv) (J : JT) (h : Nat) : Ob := .pvar (2 * A.n) [.p (.v (.int .u64 (A.done 0))), .sl h 2 (jk A J 0).length (A.hist 0).length, .p (.v (.int .u64 (A.done 1))), .sl (h + 1) 2 (jk A J 1).length (A.hist 1).length, .p (.v (.int .u64 (A.done 2))), .sl (h + 2) 2 (jk A J 2).length (A.hist 2).length, .p (.v (.int .u64 (A.done 3))), .sl (h + 3) 2 (jk A J 3).length (A.hist 3).length, .p (.v (.int .u64 (A.done 4))), .sl (h + 4) 2 (jk A J 4).length (A.hist 4).length, .p (.v (.int .u64 (A.done 5))), .sl (h + 5) 2 (jk A J 5).length (A.hist 5).length]
def thO (A : Dv) (k d m : Nat) : Ob := .var [.loc d 0, .p (.v (.int .i64 k)), .p (.v (.int .i64 (A.err k))), .mref (m + k)]
def hiO (A : Dv) (J : JT) (r : Nat) : Ob := .arr 2 ((jk A J r).map eWr ++ (A.hist r).map eWr)
def noO (A : Dv) (k : Nat) : Ob := .mp (some .i64) (.i .u64 (A.note k))
def dvL (A : Dv) (J : JT) : List Ob := [deO A 1 2 3 4, peO A, cuO A, liO A J 12, thO A 0 0 18, thO A 1 0 18, thO A 2 0 18, thO A 3 0 18, thO A 4 0 18, thO A 5 0 18, thO A 6 0 18, thO A 7 0 18, hiO A J 0, hiO A J 1, hiO A J 2, hiO A J 3, hiO A J 4, hiO A J 5, noO A 0, noO A 1, noO A 2, noO A 3, noO A 4, noO A 5, noO A 6, noO A 7]
def dv2 (A : Dv) (J : JT) : List Ob := [deO A 1 2 3 4, peO A, cuO A, liO A J 26, thO A 0 0 18, thO A 1 0 18, thO A 2 0 18, thO A 3 0 18, thO A 4 0 18, thO A 5 0 18, thO A 6 0 18, thO A 7 0 18, .dead, .dead, .dead, .dead, .dead, .dead, noO A 0, noO A 1, noO A 2, noO A 3, noO A 4, noO A 5, noO A 6, noO A 7, hiO A J 0, hiO A J 1, hiO A J 2, hiO A J 3, hiO A J 4, hiO A J 5]
attribute [go_sem] dvL dv2
def appL (ws : List Int) (l : List (Int × Int)) : List Int := l.foldl (fun ws s => ws.set (s.1 / 8).toNat s.2) ws
theorem appL_len (l : List (Int × Int)) : ∀ ws : List Int, (appL ws l).length = ws.length := by
 unfold appL
 induction l with
 | nil => intro ws; rfl
 | cons x l ih => intro ws; rw [List.foldl_cons, ih, List.length_set]
theorem appL_app (ws : List Int) (a b : List (Int × Int)) : appL ws (a ++ b) = appL (appL ws a) b := by unfold appL; rw [List.foldl_append]
def contS (A : Dv) (f : Nat → Nat) : List Int := (List.range (8 * A.n)).map fun j => (appL A.per ((A.hist (j / 8)).take (f (j / 8)))).getD j 0
theorem contS_len (A : Dv) (f : Nat → Nat) : (contS A f).length = 8 * A.n := by simp [contS]
structure WF (A : Dv) : Prop where
 n0 : 0 < A.n
 n6 : A.n ≤ 6
 per : A.per.length = 8 * A.n
 cur : A.cur.length = 8 * A.n
 hist : ∀ r, r < 6 → ∀ x, x ∈ A.hist r → ((r : Int) = x.1 / 64 ∧ x.1 % 8 = 0 ∧ 0 ≤ x.1) ∧ 0 ≤ x.2 ∧ x.2 ≤ 18446744073709551615
 top : ∀ r, A.n ≤ r → r < 6 → A.hist r = []
 len : ∀ r, r < 6 → 0 ≤ A.done r ∧ A.done r + (A.hist r).length ≤ 1000000000
 jl : True
theorem appL_off (l : List (Int × Int)) (j : Nat) (h : ∀ x, x ∈ l → (x.1 / 8).toNat ≠ j) : ∀ ws : List Int, (appL ws l).getD j 0 = ws.getD j 0 := by
 induction l with
 | nil => intro ws; rfl
 | cons x l ih =>
  intro ws
  have h1 := ih (fun y hy => h y (List.mem_cons_of_mem _ hy)) (ws.set (x.1 / 8).toNat x.2)
  have e : appL ws (x :: l) = appL (ws.set (x.1 / 8).toNat x.2) l := rfl
  rw [e, h1]
  simp only [List.getD_eq_getElem?_getD]
  rw [List.getElem?_set_ne (h x List.mem_cons_self)]
theorem contS_get (A : Dv) (f : Nat → Nat) (j : Nat) (hj : j < 8 * A.n) : (contS A f).getD j 0 = (appL A.per ((A.hist (j / 8)).take (f (j / 8)))).getD j 0 := by
 unfold contS; simp [List.getD_eq_getElem?_getD, hj]
theorem list_getD {a b : List Int} (hl : a.length = b.length) (h : ∀ j, j < a.length → a.getD j 0 = b.getD j 0) : a = b := by
 refine List.ext_getElem hl fun i h1 h2 => ?_
 have := h i h1
 simpa [List.getD_eq_getElem?_getD, h1, h2] using this
end Go.Proofs.YtckhjklcfagkoaaGreatDoor
namespace Go.Proofs.YtckhjklcfagkoaaGreatDoor
set_option maxHeartbeats 4000000
set_option maxRecDepth 100000
open Go Go.Ab
attribute [local irreducible] callK callF loopQ vstep vskip pickE hideP
theorem appL_nil (ws : List Int) : appL ws [] = ws := rfl
theorem appL_step (ws : List Int) (l : List (Int × Int)) (i : Nat) (hi : i < l.length) : ((appL ws (l.take i)).map eU).set ((l.getD i default).1 / 8).toNat (.v (.int .u64 (l.getD i default).2)) = (appL ws (l.take (i + 1))).map eU := by
 rw [yE default hi, appL_app]
 show _ = ((appL ws (l.take i)).set _ _).map eU
 rw [List.map_set]; rfl
theorem pick_row {j l : List (Int × Int)} {i : Nat} (h : i < l.length) : (j.map eWr ++ l.map eWr)[j.length + i]? = some (eWr (l.getD i default)) := by
 rw [List.getElem?_append_right (by simp)]
 simp [List.getD_eq_getElem?_getD, h]
theorem dApply (ws : List Int) (j l : List (Int × Int)) (m s k : Nat) (hm : ws.length = m) (hs : s = j.length) (hk : k ≤ l.length) (hb : m ≤ 100000 ∧ k ≤ 1000000000) (hl : ∀ x, x ∈ l → 0 ≤ x.1 ∧ x.1 / 8 < m) : ACalls Tryz.prog 104 [.sl 0 1 0 m, .sl 1 2 s k] [.arr 1 (ws.map eU), .arr 2 (j.map eWr ++ l.map eWr)] (.p (.tup [])) [.arr 1 ((appL ws (l.take k)).map eU), .arr 2 (j.map eWr ++ l.map eWr)] := by
 refine yA (E := E) (fn := Tryz.f104) 20 [] rfl rfl rfl rfl (by decide) rfl rfl ?_
 repeat' (first
  | (with_reducible first | apply zY | apply zT | apply zM | apply zN | apply zO | refine chk_ok (by kernel_rfl) ?_)
  | ((with_reducible first | apply zP | apply zQ | apply zR | apply zL) <;> intro h)
  | ((with_reducible show False); omega)
  | ((first | (with_reducible first | apply zW | apply zV | apply zU | apply zS | apply zX | show VX _ _ _ _ _ _ _ | show vstep _ _ _ _ _ | show vskip _ _ _ | show withV _ _) | ((with_reducible show endA _ _ _ _ _ _ _); simp -implicitDefEqProofs only [endA]) | (with_reducible first | refine zB default (by first | omega | (simp only [LN]; omega)) (by first | omega | (simp only [LN]; omega)) ?_ | refine zC default (by first | omega | (simp only [LN]; omega)) ?_ | refine And.intro (by first | decide | omega | assumption | (simp only [LN]; omega)) ?_) | ((with_reducible show pickE _ _ _); first | refine zA _ ⟨by omega, by rfl⟩ ?_ | refine zA _ (by rfl) ?_) | fail); try simp -dsimp -implicitDefEqProofs (maxSteps := 1000000) (disch := first | omega | (simp only [LN]; omega)) only [go_sem])
  | fail)
 refine r_loopA (α := Nat) [0, 6, 7] (fun i b => [(8, aI i)]) (fun i b => [(0, .arr 1 ((appL ws (l.take i)).map eU))]) (fun i => []) (fun i => i ≤ k) (fun i => k - i) (0) ?h0_1 ?hs0_1 ?I_1 ?hI_1 ?round_1
 case hI_1 => intro x; (simp -dsimp -implicitDefEqProofs (maxSteps := 1000000) (disch := first | omega | (simp only [LN]; omega)) only [go_sem]) <;> exact rfl
 case hs0_1 => refine wk_auto ?_; (simp -dsimp -implicitDefEqProofs (maxSteps := 1000000) (disch := first | omega | (simp only [LN, appL_nil]; omega)) only [go_sem, appL_nil]) <;> (try omega)
 case h0_1 => exact Nat.zero_le _
 case round_1 =>
  intro i h1
  have hal : (appL ws (l.take i)).length = m := by rw [appL_len]; exact hm
  by_cases hi : i < k
  ·have hx := hl (l.getD i default) (by rw [List.getD_eq_getElem?_getD, List.getElem?_eq_getElem (by omega)]; exact List.getElem_mem _)
   have hst := appL_step ws l i (by omega)
   have e1 : (l.getD i default).1.tdiv 8 = (l.getD i default).1 / 8 := Int.tdiv_eq_ediv_of_nonneg hx.1
   have e2 : IntKind.u64.wrap ((l.getD i default).1 / 8) = (l.getD i default).1 / 8 := by rw [IntKind.wrap_u64]; omega
   repeat' (first
    | (with_reducible first | apply zY | apply zT | apply zM | apply zN | apply zO | refine chk_ok (by kernel_rfl) ?_)
    | ((with_reducible first | apply zP | apply zQ | apply zR | apply zL) <;> intro h <;> try (exfalso; first | omega | exact h rfl | (revert h; decide) | (cases h; done)))
    | ((with_reducible show False); omega)
    | ((first | (with_reducible first | apply zW | apply zV | apply zU | apply zS | apply zX | show VX _ _ _ _ _ _ _ | show vstep _ _ _ _ _ | show vskip _ _ _ | show withV _ _) | ((with_reducible show endA _ _ _ _ _ _ _); simp -implicitDefEqProofs only [endA]) | (with_reducible first | refine zB default (by first | omega | (simp only [LN, hal, e1, e2]; omega)) (by first | omega | (simp only [LN, hal, e1, e2]; omega)) ?_ | refine zC default (by first | omega | (simp only [LN, hal, e1, e2]; omega)) ?_ | refine And.intro (by first | decide | omega | assumption | (simp only [LN, hal, e1, e2]; omega)) ?_) | ((with_reducible show pickE _ _ _); first | refine zA _ ⟨by omega, by rfl⟩ ?_ | refine zA _ (by rfl) ?_) | fail); try simp -dsimp -implicitDefEqProofs (maxSteps := 1000000) (disch := first | omega | (simp only [LN, hal, e1, e2]; omega)) only [go_sem, hal, e1, e2])
    | fail)
   all_goals try omega
   refine zA (eWr (l.getD i default)) (by rw [hs]; exact pick_row (by omega)) ?_
   simp -implicitDefEqProofs only [eWr]
   simp -dsimp -implicitDefEqProofs (maxSteps := 1000000) (disch := first | omega | (simp only [LN]; omega)) only [go_sem]
   repeat' (first
    | (with_reducible first | apply zY | apply zT | apply zM | apply zN | apply zO | refine chk_ok (by kernel_rfl) ?_)
    | ((with_reducible first | apply zP | apply zQ | apply zR | apply zL) <;> intro h <;> try (exfalso; first | omega | exact h rfl | (revert h; decide) | (cases h; done)))
    | ((with_reducible show False); omega)
    | ((first | (with_reducible first | apply zW | apply zV | apply zU | apply zS | apply zX | show VX _ _ _ _ _ _ _ | show vstep _ _ _ _ _ | show vskip _ _ _ | show withV _ _) | ((with_reducible show endA _ _ _ _ _ _ _); simp -implicitDefEqProofs only [endA]) | (with_reducible first | refine zB default (by first | omega | (simp only [LN, hal, e1, e2]; omega)) (by first | omega | (simp only [LN, hal, e1, e2]; omega)) ?_ | refine zC default (by first | omega | (simp only [LN, hal, e1, e2]; omega)) ?_ | refine And.intro (by first | decide | omega | assumption | (simp only [LN, hal, e1, e2]; omega)) ?_) | ((with_reducible show pickE _ _ _); first | refine zA _ ⟨by omega, by rfl⟩ ?_ | refine zA _ (by rfl) ?_) | fail); try simp -dsimp -implicitDefEqProofs (maxSteps := 1000000) (disch := first | omega | (simp only [LN, hal, e1, e2]; omega)) only [go_sem, hal, e1, e2])
    | fail)
   all_goals first | omega | (refine zZ (i + 1) ?_ ?_ ?_; (omega); (show _ < _; omega); (simp -dsimp -implicitDefEqProofs (maxSteps := 1000000) (disch := first | omega | (simp only [LN, hst]; omega)) only [go_sem, hst]; try trivial))
  ·obtain rfl : i = k := by omega
   repeat' (first
    | (with_reducible first | apply zY | apply zT | apply zM | apply zN | apply zO | refine chk_ok (by kernel_rfl) ?_)
    | ((with_reducible first | apply zP | apply zQ | apply zR | apply zL) <;> intro h <;> try (exfalso; first | omega | exact h rfl | (revert h; decide) | (cases h; done)))
    | ((with_reducible show False); omega)
    | ((first | (with_reducible first | apply zW | apply zV | apply zU | apply zS | apply zX | show VX _ _ _ _ _ _ _ | show vstep _ _ _ _ _ | show vskip _ _ _ | show withV _ _) | ((with_reducible show endA _ _ _ _ _ _ _); simp -implicitDefEqProofs only [endA]) | (with_reducible first | refine zB default (by first | omega | (simp only [LN, hal]; omega)) (by first | omega | (simp only [LN, hal]; omega)) ?_ | refine zC default (by first | omega | (simp only [LN, hal]; omega)) ?_ | refine And.intro (by first | decide | omega | assumption | (simp only [LN, hal]; omega)) ?_) | ((with_reducible show pickE _ _ _); first | refine zA _ ⟨by omega, by rfl⟩ ?_ | refine zA _ (by rfl) ?_) | fail); try simp -dsimp -implicitDefEqProofs (maxSteps := 1000000) (disch := first | omega | (simp only [LN, hal]; omega)) only [go_sem, hal])
    | fail)
   all_goals first | omega
end Go.Proofs.YtckhjklcfagkoaaGreatDoor
namespace Go.Proofs.YtckhjklcfagkoaaGreatDoor
set_option maxHeartbeats 4000000
set_option maxRecDepth 100000
open Go Go.Ab
attribute [local irreducible] callK callF loopQ vstep vskip pickE hideP
attribute [local go_sem] deO peO cuO liO thO hiO noO
def Dv.fail (A : Dv) (k : Nat) (e : Int) : Dv := if A.err k = 0 then { A with err := upd A.err k e } else A
def Dv.onS (A : Dv) (k : Nat) (v : Bool) : Dv := if A.off = true then A.fail k 3 else if v = true then A else A.fail k 2
def Dv.cnt (A : Dv) (k : Nat) (v : Bool) : Dv := if A.off = true then A.fail k 3 else if v = false then A.fail k 2 else if A.armed = true then (if A.left = 0 then ({ A with off := true } : Dv).fail k 3 else { A with left := IntKind.i64.wrap (A.left - 1), ex := IntKind.u64.wrap (A.ex + 1) }) else { A with ex := IntKind.u64.wrap (A.ex + 1) }
def Dv.cntB (A : Dv) (v : Bool) : Bool := !A.off && (v && !(A.armed && decide (A.left = 0)))
theorem tFail (A : Dv) (J : JT) (k : Nat) (hk : k < 8) (e : Int) : ACalls Tryz.prog 105 [.loc (4 + k) 0, .p (.v (.int .i64 e))] (dvL A J) (.p (.tup [])) (dvL (A.fail k e) J) := by
 refine yA (E := E) (fn := Tryz.f105) 13 [] rfl rfl rfl rfl (by decide) rfl rfl ?_
 repeat' (first
  | (with_reducible first | apply zY | apply zT | apply zM | apply zN | apply zO | refine chk_ok (by kernel_rfl) ?_)
  | ((with_reducible first | apply zP | apply zQ | apply zR | apply zL) <;> intro h)
  | ((with_reducible show False); omega)
  | ((first | (with_reducible first | apply zW | apply zV | apply zU | apply zS | apply zX | show VX _ _ _ _ _ _ _ | show vstep _ _ _ _ _ | show vskip _ _ _ | show withV _ _) | ((with_reducible show endA _ _ _ _ _ _ _); simp -implicitDefEqProofs only [endA]) | (with_reducible first | refine zB default (by first | omega | (simp only [LN]; omega)) (by first | omega | (simp only [LN]; omega)) ?_ | refine zC default (by first | omega | (simp only [LN]; omega)) ?_ | refine And.intro (by first | decide | omega | assumption | (simp only [LN]; omega)) ?_) | ((with_reducible show pickE _ _ _); first | refine zA _ ⟨by omega, by rfl⟩ ?_ | refine zA _ (by rfl) ?_) | fail); try simp -dsimp -implicitDefEqProofs (maxSteps := 1000000) (disch := first | omega | (simp only [LN]; omega)) only [go_sem])
  | fail)
 all_goals (simp [Dv.fail, upd, jk, h])
end Go.Proofs.YtckhjklcfagkoaaGreatDoor
