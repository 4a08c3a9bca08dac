/- Part 1 of a framework of lemmas that the proofs of this seat use: what a function computes, told by plain values. No conditions. -/
import Derived.Orders
import Derived.Laws.World
import Derived.Tactics
import Derived.MapKept
import Derived.Laws.Cells
import Derived.ChangeKeysEq
import Derived.Laws.StructEq
import Derived.Laws.Build
import Derived.Laws.Slices
import Derived.Deep.AppendSrc
import Derived.Laws.MakeOwn
set_option linter.unusedVariables false
set_option linter.unusedSimpArgs false
set_option linter.unusedSectionVars false
set_option warn.classDefReducibility false
set_option linter.unusedSectionVars false
namespace Go.Ab
theorem LN : (∀ (α : Type) (a b : List α), (a ++ b).length = a.length + b.length) ∧ (∀ (α β : Type) (f : α → β) (l : List α), (l.map f).length = l.length) ∧ (∀ (α : Type) (l : List α) (n : Nat), (l.take n).length = min n l.length) ∧
  (∀ (α : Type) (l : List α) (n : Nat), (l.drop n).length = l.length - n) ∧ (∀ (α : Type) (x : α) (l : List α), (x :: l).length = l.length + 1) ∧ (∀ (α : Type), ([] : List α).length = 0) ∧ (∀ n : Nat, 0 + n = n) :=
 ⟨fun _ _ _ => List.length_append, fun _ _ _ _ => List.length_map _, fun _ _ _ => List.length_take, fun _ _ _ => List.length_drop, fun _ _ _ => List.length_cons, fun _ => List.length_nil, Nat.zero_add⟩
inductive PV where
 | v (x : Value)
 | view (sz : Nat) (es : List PV)
 | nview (sz : Nat) (es : List PV)
 | agg (cs : List PV)
 | tup (cs : List PV)
 | eptr (cs : List PV) (off : Nat)
 | fn (f : FuncId) (cs : List PV)
 | ifc (t : TypeId) (x : PV)
 | rv (g : Value) (x : PV)
def oneB : Value → Bool | .agg _ => false | .tuple _ => false | _ => true
def vcells (u : Value) : List Value := u.cells.toList
def big : Nat := 140737488355328
def At (w : World) (b o : Nat) (vs : List Value) : Prop := ∀ i u, vs[i]? = some u → w.cell? ⟨b, o + i, none⟩ = some u
def Elems (w : World) (b o sz : Nat) (vs : List Value) : Prop := ∀ k u, vs[k]? = some u → At w b (o + k * sz) (vcells u)
def SliceAt (Z : Nat → Prop) (w : World) (sz : Nat) (vs : List Value) : Option Addr → Nat → Nat → Prop
 | none, n, cap => n = 0 ∧ cap = 0
 | some a, n, cap => n ≤ cap ∧ (n = 0 ∨ (a.spot = none ∧ Z a.block ∧ Elems w a.block a.off sz vs))
def AllOne (vs : List Value) : Prop := ∀ x, x ∈ vs → oneB x = true
def Fit (sz : Nat) (x : Value) : Prop := (vcells x).length = sz ∧ AllOne (vcells x)
structure Unfrozen (fr : Nat × Nat) (n : Nat) : Prop where
 le : fr.1 ≤ fr.2
 no : ∀ o, o < n → ¬ (fr.1 ≤ o ∧ o < fr.2)
theorem Unfrozen.mono {fr : Nat × Nat} {n m : Nat} (h : Unfrozen fr n) (hm : m ≤ n) : Unfrozen fr m := ⟨h.le, fun o ho => h.no o (Nat.lt_of_lt_of_le ho hm)⟩
def Wrb (Z : Nat → Prop) (w : World) (g : Value) : Prop := ∀ a n cap, g = .slice (some a) n cap → n = 0 ∨ (Z a.block ∧ ∃ arr ty fr, w.heap[a.block]? = some (.cells arr ty fr) ∧ Unfrozen fr arr.size)
mutual
def Rep (Z : Nat → Prop) (w : World) : PV → Value → Prop
 | .v x, u => u = x ∧ oneB x = true
 | .view sz es, u => ∃ vs base cap, Reps Z w es vs ∧ u = .slice base vs.length cap ∧ 0 < sz ∧ (∀ x, x ∈ vs → Fit sz x) ∧ vs.length ≤ big ∧ SliceAt Z w sz vs base vs.length cap
 | .nview sz es, u => ∃ vs a cap, Reps Z w es vs ∧ u = .slice (some a) vs.length cap ∧ 0 < sz ∧ (∀ x, x ∈ vs → Fit sz x) ∧ vs.length ≤ big ∧ SliceAt Z w sz vs (some a) vs.length cap
 | .agg cs, u => ∃ vs, Reps Z w cs vs ∧ u = .agg vs.toArray ∧ AllOne vs
 | .tup cs, u => ∃ vs, Reps Z w cs vs ∧ u = .tuple vs.toArray
 | .eptr cs off, u => ∃ vs b o, Reps Z w cs vs ∧ AllOne vs ∧ u = .pointer (some ⟨b, o + off, none⟩) ∧ Z b ∧ At w b o vs
 | .fn f cs, u => ∃ vs, Reps Z w cs vs ∧ u = .func (.func f) #[] vs.toArray
 | .ifc t x, u => ∃ y, Rep Z w x y ∧ u = .iface t y
 | .rv g x, u => u = g ∧ oneB g = true ∧ Rep Z w x u ∧ Wrb Z w g
def Reps (Z : Nat → Prop) (w : World) : List PV → List Value → Prop
 | [], vs => vs = []
 | x :: xs, vs => ∃ u us, vs = u :: us ∧ Rep Z w x u ∧ Reps Z w xs us
end
def Keep (Z : Nat → Prop) (w w' : World) : Prop := ∀ b, Z b → w'.heap[b]? = w.heap[b]?
theorem cell_of_heap {w w' : World} {a : Addr} (h : w'.heap[a.block]? = w.heap[a.block]?) : w'.cell? a = w.cell? a := by
 unfold World.cell?; rw [h]
def gfind : List (Nat × List PV) → Nat → Option (List PV)
 | [], _ => none
 | (g, cs) :: r, h => match Nat.beq g h with
  | true => some cs
  | false => gfind r h
def slotOf : List (Nat × Nat) → Nat → Nat
 | [], _ => 1
 | (g, n) :: r, h => match Nat.beq g h with
  | true => n
  | false => slotOf r h
class Glob where
 G : (Nat → Prop) → World → Prop
 mono : ∀ {Z Z' : Nat → Prop} {w w' : World}, (∀ b, Z b → Z' b) → Keep Z w w' → G Z w → G Z' w'
 tab : List (Nat × List PV)
 bld : TypeId := 0
 slots : Nat → Nat := fun _ => 1
 islots : String → Nat := fun _ => 0
 dr : Prop := False
 ok : ∀ {Z : Nat → Prop} {w : World} {g : Nat} {cs : List PV}, G Z w → gfind tab g = some cs → Z g ∧ ∃ vs, Reps Z w cs vs ∧ AllOne vs ∧ At w g 0 vs
variable [Glob]
structure ZOk (Z : Nat → Prop) (w : World) : Prop where
 lt : ∀ b, Z b → b < w.heap.size
 gl : Glob.G Z w
theorem At.keep {Z : Nat → Prop} {w w' : World} {b o : Nat} {vs : List Value} (hk : Keep Z w w') (hb : Z b) (h : At w b o vs) : At w' b o vs :=
 fun i u hi => by rw [cell_of_heap (a := ⟨b, o + i, none⟩) (hk b hb)]; exact h i u hi
theorem SliceAt.keep {Z Z' : Nat → Prop} {w w' : World} {sz : Nat} {vs : List Value} {base : Option Addr} {n cap : Nat} (hz : ∀ b, Z b → Z' b) (hk : Keep Z w w')
  (h : SliceAt Z w sz vs base n cap) : SliceAt Z' w' sz vs base n cap := by
 cases base with
 | none => exact h
 | some a =>
  obtain ⟨h1, h2⟩ := h
  refine ⟨h1, h2.imp id fun ⟨a1, a2, a3⟩ => ⟨a1, hz _ a2, fun k u hu => (a3 k u hu).keep hk a2⟩⟩
mutual
theorem Rep.mono {Z Z' : Nat → Prop} {w w' : World} (hz : ∀ b, Z b → Z' b) (hk : Keep Z w w') : ∀ (x : PV) (u : Value), Rep Z w x u → Rep Z' w' x u
 | .v x, u, h => by simpa [Rep] using h
 | .view sz es, u, h => by
  simp only [Rep] at h ⊢
  obtain ⟨vs, base, cap, h1, h2, h3, h4, h5, h6⟩ := h
  exact ⟨vs, base, cap, Reps.mono hz hk es vs h1, h2, h3, h4, h5, h6.keep hz hk⟩
 | .nview sz es, u, h => by
  simp only [Rep] at h ⊢
  obtain ⟨vs, a, cap, h1, h2, h3, h4, h5, h6⟩ := h
  exact ⟨vs, a, cap, Reps.mono hz hk es vs h1, h2, h3, h4, h5, h6.keep hz hk⟩
 | .agg cs, u, h => by
  simp only [Rep] at h ⊢
  obtain ⟨vs, h1, h2⟩ := h
  exact ⟨vs, Reps.mono hz hk cs vs h1, h2⟩
 | .tup cs, u, h => by
  simp only [Rep] at h ⊢
  obtain ⟨vs, h1, h2⟩ := h
  exact ⟨vs, Reps.mono hz hk cs vs h1, h2⟩
 | .eptr cs off, u, h => by
  simp only [Rep] at h ⊢
  obtain ⟨vs, b, o, h1, h2, h3, h4, h5⟩ := h
  exact ⟨vs, b, o, Reps.mono hz hk cs vs h1, h2, h3, hz _ h4, h5.keep hk h4⟩
 | .fn f cs, u, h => by
  simp only [Rep] at h ⊢
  obtain ⟨vs, h1, h2⟩ := h
  exact ⟨vs, Reps.mono hz hk cs vs h1, h2⟩
 | .ifc t x, u, h => by
  simp only [Rep] at h ⊢
  obtain ⟨y, h1, h2⟩ := h
  exact ⟨y, Rep.mono hz hk x y h1, h2⟩
 | .rv g x, u, h => by
  simp only [Rep] at h ⊢
  obtain ⟨h1, h0, h2, h3⟩ := h
  exact ⟨h1, h0, Rep.mono hz hk x u h2, fun a n cap e => (h3 a n cap e).imp id fun ⟨k1, arr, ty, fr, k2, k3⟩ => ⟨hz _ k1, arr, ty, fr, (hk _ k1).trans k2, k3⟩⟩
theorem Reps.mono {Z Z' : Nat → Prop} {w w' : World} (hz : ∀ b, Z b → Z' b) (hk : Keep Z w w') : ∀ (xs : List PV) (vs : List Value), Reps Z w xs vs → Reps Z' w' xs vs
 | [], vs, h => by simpa [Reps] using h
 | x :: xs, vs, h => by
  simp only [Reps] at h ⊢
  obtain ⟨u, us, h1, h2, h3⟩ := h
  exact ⟨u, us, h1, Rep.mono hz hk x u h2, Reps.mono hz hk xs us h3⟩
end
inductive AV where
 | p (x : PV)
 | loc (i off : Nat)
 | eloc (i sz k off : Nat)
 | sl (i sz st n : Nat)
 | mref (i : Nat)
 | agg (cs : List AV)
 | tup (cs : List AV)
 | fn (f : FuncId) (cs : List AV)
 | ifc (t : TypeId) (x : AV)
def bsize (w : World) (b : Nat) : Nat := match w.heap[b]? with
 | some (.cells c _ _) => c.size
 | _ => 0
abbrev Lb := List (Option (Option Nat))
mutual
def ARep (Z : Nat → Prop) (lb : Lb) (w : World) : AV → Value → Prop
 | .p x, u => Rep Z w x u
 | .loc i off, u => ∃ b, lb[i]? = some (some (some b)) ∧ u = .pointer (some ⟨b, off, none⟩)
 | .eloc i sz k off, u => ∃ b, lb[i]? = some (some (some b)) ∧ u = .pointer (some ⟨b, k * sz + off, none⟩)
 | .sl i sz st n, u => (st = 0 ∧ n = 0 ∧ lb[i]? = some (some none) ∧ u = .slice none 0 0) ∨
   ∃ b cap, lb[i]? = some (some (some b)) ∧ u = .slice (some ⟨b, st * sz, none⟩) n cap ∧ n ≤ cap ∧ (st + cap) * sz ≤ bsize w b
 | .mref i, u => ∃ b, lb[i]? = some (some (some b)) ∧ u = .map (some b)
 | .agg cs, u => ∃ vs, AReps Z lb w cs vs ∧ u = .agg vs.toArray ∧ AllOne vs
 | .tup cs, u => ∃ vs, AReps Z lb w cs vs ∧ u = .tuple vs.toArray
 | .fn f cs, u => ∃ vs, AReps Z lb w cs vs ∧ u = .func (.func f) #[] vs.toArray
 | .ifc t x, u => ∃ y, ARep Z lb w x y ∧ u = .iface t y
def AReps (Z : Nat → Prop) (lb : Lb) (w : World) : List AV → List Value → Prop
 | [], vs => vs = []
 | x :: xs, vs => ∃ u us, vs = u :: us ∧ ARep Z lb w x u ∧ AReps Z lb w xs us
end
def LbLe (lb lb' : Lb) : Prop := ∀ (i : Nat) x, lb[i]? = some (some x) → lb'[i]? = some (some x)
def BsLe (w w' : World) : Prop := ∀ b, b < w.heap.size → bsize w' b = bsize w b
theorem bsize_lt {w : World} {b : Nat} (h : 0 < bsize w b) : b < w.heap.size := by
 unfold bsize at h
 rcases Nat.lt_or_ge b w.heap.size with h' | h'
 ·exact h'
 ·simp [Array.getElem?_eq_none h'] at h
mutual
theorem ARep.mono {Z Z' : Nat → Prop} {lb lb' : Lb} {w w' : World} (hz : ∀ b, Z b → Z' b) (hk : Keep Z w w') (hl : LbLe lb lb') (hb : BsLe w w') :
  ∀ (x : AV) (u : Value), ARep Z lb w x u → ARep Z' lb' w' x u
 | .p x, u, h => by simp only [ARep] at h ⊢; exact Rep.mono hz hk x u h
 | .loc i off, u, h => by simp only [ARep] at h ⊢; obtain ⟨b, h1, h2⟩ := h; exact ⟨b, hl _ _ h1, h2⟩
 | .eloc i sz k off, u, h => by simp only [ARep] at h ⊢; obtain ⟨b, h1, h2⟩ := h; exact ⟨b, hl _ _ h1, h2⟩
 | .mref i, u, h => by simp only [ARep] at h ⊢; obtain ⟨b, h1, h2⟩ := h; exact ⟨b, hl _ _ h1, h2⟩
 | .sl i sz st n, u, h => by
  simp only [ARep] at h ⊢
  rcases h with ⟨h1, h2, h3, h4⟩ | ⟨b, cap, h1, h2, h3, h4⟩
  ·exact .inl ⟨h1, h2, hl _ _ h3, h4⟩
  ·refine .inr ⟨b, cap, hl _ _ h1, h2, h3, ?_⟩
   rcases Nat.eq_zero_or_pos ((st + cap) * sz) with h0 | h0
   ·omega
   ·rw [hb b (bsize_lt (by omega))]; exact h4
 | .agg cs, u, h => by
  simp only [ARep] at h ⊢
  obtain ⟨vs, h1, h2⟩ := h
  exact ⟨vs, AReps.mono hz hk hl hb cs vs h1, h2⟩
 | .tup cs, u, h => by
  simp only [ARep] at h ⊢
  obtain ⟨vs, h1, h2⟩ := h
  exact ⟨vs, AReps.mono hz hk hl hb cs vs h1, h2⟩
 | .fn f cs, u, h => by
  simp only [ARep] at h ⊢
  obtain ⟨vs, h1, h2⟩ := h
  exact ⟨vs, AReps.mono hz hk hl hb cs vs h1, h2⟩
 | .ifc t x, u, h => by
  simp only [ARep] at h ⊢
  obtain ⟨y, h1, h2⟩ := h
  exact ⟨y, ARep.mono hz hk hl hb x y h1, h2⟩
theorem AReps.mono {Z Z' : Nat → Prop} {lb lb' : Lb} {w w' : World} (hz : ∀ b, Z b → Z' b) (hk : Keep Z w w') (hl : LbLe lb lb') (hb : BsLe w w') :
  ∀ (xs : List AV) (vs : List Value), AReps Z lb w xs vs → AReps Z' lb' w' xs vs
 | [], vs, h => by simpa [AReps] using h
 | x :: xs, vs, h => by
  simp only [AReps] at h ⊢
  obtain ⟨u, us, h1, h2, h3⟩ := h
  exact ⟨u, us, h1, ARep.mono hz hk hl hb x u h2, AReps.mono hz hk hl hb xs us h3⟩
end
inductive EK where
 | b (f : Value → Bool)
 | i (k : IntKind) (f : Value → Option Int)
def EK.get : EK → Value → Value
 | .b f, k => .bool (f k)
 | .i d f, k => .int d ((f k).getD 0)
def EK.zero : EK → Value
 | .b _ => .bool false
 | .i d _ => .int d 0
def EK.has : EK → Value → Prop
 | .b _, _ => True
 | .i _ f, k => (f k).isSome = true
def keyD : Option IntKind → TypeDesc
 | some k => .int k
 | none => .string
structure MapIs (kk : Option IntKind) (ek : EK) (es : Array MapEntry) (clock : Nat) : Prop where
 st : MapKept.Stamped es clock
 keys : ∀ e, e ∈ es.toList → MapKept.IsKey (keyD kk) e.key
 val : ∀ e, e ∈ es.toList → e.val = ek.get e.key
 out : ∀ k, MapKept.IsKey (keyD kk) k → (∀ e, e ∈ es.toList → e.key ≠ k) → ek.get k = ek.zero
 has : ∀ e, e ∈ es.toList → ek.has e.key
inductive Ob where
 | var (cs : List AV)
 | arr (sz : Nat) (es : List PV)
 | dead
 | bld (T : TypeId) (q : AV)
 | byt (e : TypeId) (bs : List UInt8)
 | mp (kk : Option IntKind) (ek : EK)
 | pvar (m : Nat) (cs : List AV)
 | mpx (kk : Option IntKind) (es : Array MapEntry) (cl : Nat)
 | it (q : AV) (since : Nat) (seen : Array Nat) (last : Nat)
 | lp (l : Nat) (mk : Array Value → Obj) (n : Nat) (ds : List Nat) (cs : List AV)
def Ob.live : Ob → Prop
 | .dead => False
 | _ => True
def ObAt (Z : Nat → Prop) (lb : Lb) (w : World) : Ob → Option Nat → Prop
 | .dead, _ => True
 | .var cs, some b => ¬ Z b ∧ b < w.heap.size ∧ ∃ vs ty fr, AReps Z lb w cs vs ∧ AllOne vs ∧ w.heap[b]? = some (.cells vs.toArray ty fr) ∧ Unfrozen fr (vs.length + 1)
 | .var _, none => False
 | .arr sz es, none => es = [] ∧ 0 < sz
 | .arr sz es, some b => ¬ Z b ∧ b < w.heap.size ∧ ∃ vs arr ty fr, Reps Z w es vs ∧ 0 < sz ∧ (∀ x, x ∈ vs → Fit sz x) ∧ w.heap[b]? = some (.cells arr ty fr) ∧ Unfrozen fr arr.size ∧
   (∀ k u, vs[k]? = some u → ∀ j c, (vcells u)[j]? = some c → arr[k * sz + j]? = some c) ∧ vs.length ≤ big ∧ vs.length * sz ≤ arr.size
 | .bld T q, some b => ¬ Z b ∧ b < w.heap.size ∧ ∃ p v, w.heap[b]? = some (.cells #[p, v] T (0, 0)) ∧ (p = .pointer none ∨ p = .pointer (some ⟨b, 0, none⟩)) ∧ ARep Z lb w q v ∧
   ∀ a n cap, v = .slice (some a) n cap → cap ≤ 9223372036854775807 ∧ a.block < w.heap.size ∧ bsize w a.block = cap
 | .bld _ _, none => False
 | .byt e bs, some b => ¬ Z b ∧ b < w.heap.size ∧ ∃ cur fz, w.heap[b]? = some (.cells cur e fz) ∧ fz.2 ≤ bs.length ∧ cur.toList.take bs.length = bs.map fun x => Value.int .u8 (x.toNat : Int)
 | .byt _ bs, none => bs = []
 | .mp kk ek, some b => ¬ Z b ∧ b < w.heap.size ∧ ∃ es clock, w.heap[b]? = some (.map es clock) ∧ MapIs kk ek es clock
 | .mp _ _, none => False
 | .pvar m cs, some b => ¬ Z b ∧ b < w.heap.size ∧ ∃ vs arr ty fr, AReps Z lb w cs vs ∧ AllOne vs ∧ w.heap[b]? = some (.cells arr ty fr) ∧ Unfrozen fr arr.size ∧ m ≤ arr.size ∧ ∀ j u, j < m → vs[j]? = some u → arr[j]? = some u
 | .pvar _ _, none => False
 | .mpx _ es cl, some b => ¬ Z b ∧ b < w.heap.size ∧ w.heap[b]? = some (.map es cl)
 | .mpx _ _ _, none => False
 | .it q since seen last, some b => ¬ Z b ∧ b < w.heap.size ∧ ∃ mo, ARep Z lb w q (.map mo) ∧ w.heap[b]? = some (.mapIter mo since seen last)
 | .it _ _ _ _, none => False
 | .lp l mk n ds cs, some b => ¬ Z b ∧ b < w.heap.size ∧ b = l ∧ ∃ vs tm, AReps Z lb w cs vs ∧ tm.size = n ∧ w.heap[b]? = some (mk tm) ∧ ∀ (i : Nat) d u, ds[i]? = some d → vs[i]? = some u → tm[d]? = some u
 | .lp _ _ _ _ _, none => False
structure Own (Z : Nat → Prop) (lb : Lb) (L : List (Option Ob)) (w : World) : Prop where
 len : lb.length = L.length
 obj : ∀ (i : Nat) o, L[i]? = some (some o) → ∃ x, lb[i]? = some (some x) ∧ ObAt Z lb w o x
 hole : ∀ i : Nat, L[i]? = some none → lb[i]? = some none
 inj : ∀ (i j : Nat) o o' b, L[i]? = some (some o) → L[j]? = some (some o') → o.live → o'.live → lb[i]? = some (some (some b)) → lb[j]? = some (some (some b)) → i = j
 zlt : ZOk Z w
structure OutD (w w' : World) : Prop where
 out : w'.output = w.output
 up : Glob.dr → w.drawn ≤ w'.drawn
theorem OutD.refl (w : World) : OutD w w := ⟨rfl, fun _ => Nat.le_refl _⟩
theorem OutD.trans {w w1 w2 : World} (k : OutD w1 w2) (h : OutD w w1) : OutD w w2 := ⟨k.out.trans h.out, fun hd => Nat.le_trans (h.up hd) (k.up hd)⟩
theorem od_drew (w : World) : OutD w w.drew := ⟨rfl, fun _ => Nat.le_succ _⟩
class Quick : Prop where
 no : ¬ Glob.dr
structure Stp (Z : Nat → Prop) (lb : Lb) (w : World) (Z' : Nat → Prop) (lb' : Lb) (w' : World) : Prop where
 os : w'.os = w.os
 tape : w'.tape = w.tape
 output : OutD w w'
 size : w.heap.size ≤ w'.heap.size
 keep : Keep Z w w'
 z1 : ∀ b, Z b → Z' b
 z2 : ∀ b, Z' b → b < w.heap.size → Z b ∨ ∃ i : Nat, lb[i]? = some (some (some b))
 bs : BsLe w w'
 hp : ∀ b, b < w.heap.size → (∀ i : Nat, lb[i]? ≠ some (some (some b))) → w'.heap[b]? = w.heap[b]?
 le : LbLe lb lb'
 fresh : ∀ (i : Nat) b, lb'[i]? = some (some (some b)) → (∃ j : Nat, lb[j]? = some (some (some b))) ∨ (w.heap.size ≤ b ∧ b < w'.heap.size)
 len : lb'.length = lb.length
theorem Stp.refl (Z : Nat → Prop) (lb : Lb) (w : World) : Stp Z lb w Z lb w :=
 ⟨rfl, rfl, OutD.refl _, Nat.le_refl _, fun _ _ => rfl, fun _ h => h, fun _ h _ => .inl h, fun _ _ => rfl, fun _ _ _ => rfl, fun _ _ h => h, fun i _ h => .inl ⟨i, h⟩, rfl⟩
theorem Stp.trans {Z Z₁ Z₂ : Nat → Prop} {lb lb₁ lb₂ : Lb} {w w₁ w₂ : World} (h : Stp Z lb w Z₁ lb₁ w₁) (k : Stp Z₁ lb₁ w₁ Z₂ lb₂ w₂) : Stp Z lb w Z₂ lb₂ w₂ where
 os := k.os.trans h.os
 tape := k.tape.trans h.tape
 output := k.output.trans h.output
 size := Nat.le_trans h.size k.size
 keep := fun b hb => (k.keep b (h.z1 b hb)).trans (h.keep b hb)
 z1 := fun b hb => k.z1 b (h.z1 b hb)
 z2 := fun b hb hlt => by
  rcases k.z2 b hb (Nat.lt_of_lt_of_le hlt h.size) with h1 | ⟨i, h1⟩
  ·exact h.z2 b h1 hlt
  ·rcases h.fresh i b h1 with h2 | h2
   ·exact .inr h2
   ·omega
 bs := fun b hb => (k.bs b (Nat.lt_of_lt_of_le hb h.size)).trans (h.bs b hb)
 hp := fun b hb hn => by
  refine (k.hp b (Nat.lt_of_lt_of_le hb h.size) fun i hi => ?_).trans (h.hp b hb hn)
  rcases h.fresh i b hi with ⟨j, h2⟩ | h2
  ·exact hn j h2
  ·omega
 le := fun i x hx => k.le i x (h.le i x hx)
 fresh := fun i b hb => by
  rcases k.fresh i b hb with ⟨j, h1⟩ | h1
  ·rcases h.fresh j b h1 with h2 | ⟨h2, h3⟩
   ·exact .inl h2
   ·exact .inr ⟨h2, Nat.lt_of_lt_of_le h3 k.size⟩
  ·exact .inr ⟨Nat.le_trans h.size h1.1, h1.2⟩
 len := k.len.trans h.len
theorem Stp.arep {Z Z' : Nat → Prop} {lb lb' : Lb} {w w' : World} (h : Stp Z lb w Z' lb' w') {x : AV} {u : Value} (hx : ARep Z lb w x u) : ARep Z' lb' w' x u :=
 ARep.mono h.z1 h.keep h.le h.bs x u hx
theorem Stp.areps {Z Z' : Nat → Prop} {lb lb' : Lb} {w w' : World} (h : Stp Z lb w Z' lb' w') {x : List AV} {u : List Value} (hx : AReps Z lb w x u) : AReps Z' lb' w' x u :=
 AReps.mono h.z1 h.keep h.le h.bs x u hx
theorem Stp.reps {Z Z' : Nat → Prop} {lb lb' : Lb} {w w' : World} (h : Stp Z lb w Z' lb' w') {x : List PV} {u : List Value} (hx : Reps Z w x u) : Reps Z' w' x u :=
 Reps.mono h.z1 h.keep x u hx
def tget : List (Nat × Option AV) → Nat → Option AV
 | [], _ => none
 | (d, x) :: t, e => match Nat.beq d e with
  | true => x
  | false => tget t e
structure ASt where
 n : Nat
 t : List (Nat × Option AV)
 L : List (Option Ob)
def LtB (lb : Lb) (w : World) : Prop := ∀ (i : Nat) b, lb[i]? = some (some (some b)) → b < w.heap.size
def Marks (Z : Nat → Prop) (lb : Lb) (w : World) (ds : List Deferred) : Prop :=
 LtB lb w ∧ ∃ rs : List Nat, ds.map (·.target) = rs.map Target.collected ∧ rs.Nodup ∧ ∀ r, r ∈ rs → ¬ Z r ∧ w.heap[r]? = some (.deferred (some [])) ∧ ∀ i : Nat, lb[i]? ≠ some (some (some r))
theorem Marks.nil {Z : Nat → Prop} {lb : Lb} {w : World} (h : LtB lb w) : Marks Z lb w [] := ⟨h, [], rfl, List.nodup_nil, fun r hr => by simp at hr⟩
theorem heap_lt {w : World} {r : Nat} {o : Obj} (h : w.heap[r]? = some o) : r < w.heap.size := (Array.getElem?_eq_some_iff.1 h).1
theorem LtB.core {lb lb' : Lb} {w w' : World} (h : LtB lb w) (hsz : w.heap.size ≤ w'.heap.size)
  (hf : ∀ (i : Nat) b, lb'[i]? = some (some (some b)) → (∃ j : Nat, lb[j]? = some (some (some b))) ∨ (w.heap.size ≤ b ∧ b < w'.heap.size)) : LtB lb' w' := fun i b hi => by
 rcases hf i b hi with ⟨j, h1⟩ | h1
 ·exact Nat.lt_of_lt_of_le (h j b h1) hsz
 ·exact h1.2
theorem Marks.core {Z Z' : Nat → Prop} {lb lb' : Lb} {w w' : World} {ds : List Deferred} (h : Marks Z lb w ds) (hsz : w.heap.size ≤ w'.heap.size) (hz2 : ∀ b, Z' b → b < w.heap.size → Z b ∨ ∃ i : Nat, lb[i]? = some (some (some b)))
  (hp : ∀ b, b < w.heap.size → (∀ i : Nat, lb[i]? ≠ some (some (some b))) → w'.heap[b]? = w.heap[b]?)
  (hf : ∀ (i : Nat) b, lb'[i]? = some (some (some b)) → (∃ j : Nat, lb[j]? = some (some (some b))) ∨ (w.heap.size ≤ b ∧ b < w'.heap.size)) : Marks Z' lb' w' ds := by
 obtain ⟨h0, rs, h1, h2, h3⟩ := h
 refine ⟨h0.core hsz hf, rs, h1, h2, fun r hr => ?_⟩
 obtain ⟨k1, k2, k3⟩ := h3 r hr
 have hlt := heap_lt k2
 refine ⟨fun hz => ?_, (hp r hlt k3).trans k2, fun i hi => ?_⟩
 ·rcases hz2 r hz hlt with h | ⟨i, h⟩
  ·exact k1 h
  ·exact k3 i h
 ·rcases hf i r hi with ⟨j, h⟩ | h
  ·exact k3 j h
  ·omega
theorem Marks.stp {Z Z' : Nat → Prop} {lb lb' : Lb} {w w' : World} {ds : List Deferred} (h : Marks Z lb w ds) (st : Stp Z lb w Z' lb' w') : Marks Z' lb' w' ds := h.core st.size st.z2 st.hp st.fresh
structure St (Z : Nat → Prop) (lb : Lb) (s : ASt) (a : Act) (w : World) : Prop where
 own : Own Z lb s.L w
 tm : ∀ d x, tget s.t d = some x → ∃ u, a.tmps[d]? = some u ∧ ARep Z lb w x u
 df : Marks Z lb w a.defers
 sz : a.tmps.size = s.n
end Go.Ab
namespace Go.Ab
variable [Glob]
theorem AReps.length {Z : Nat → Prop} {lb : Lb} {w : World} : ∀ {xs : List AV} {vs : List Value}, AReps Z lb w xs vs → vs.length = xs.length
 | [], vs, h => by simp only [AReps] at h; subst h; rfl
 | x :: xs, vs, h => by
  simp only [AReps] at h
  obtain ⟨u, us, rfl, _, h3⟩ := h
  simp [AReps.length h3]
theorem Reps.length {Z : Nat → Prop} {w : World} : ∀ {xs : List PV} {vs : List Value}, Reps Z w xs vs → vs.length = xs.length
 | [], vs, h => by simp only [Reps] at h; subst h; rfl
 | x :: xs, vs, h => by
  simp only [Reps] at h
  obtain ⟨u, us, rfl, _, h3⟩ := h
  simp [Reps.length h3]
theorem AReps.get {Z : Nat → Prop} {lb : Lb} {w : World} : ∀ {xs : List AV} {vs : List Value}, AReps Z lb w xs vs → ∀ (i : Nat) x, xs[i]? = some x → ∃ u, vs[i]? = some u ∧ ARep Z lb w x u
 | [], vs, h, i, x, hx => by simp at hx
 | y :: xs, vs, h, i, x, hx => by
  simp only [AReps] at h
  obtain ⟨u, us, rfl, h2, h3⟩ := h
  cases i with
  | zero => simp at hx; subst hx; exact ⟨u, rfl, h2⟩
  | succ i => simpa using AReps.get h3 i x (by simpa using hx)
theorem Reps.get {Z : Nat → Prop} {w : World} : ∀ {xs : List PV} {vs : List Value}, Reps Z w xs vs → ∀ (i : Nat) x, xs[i]? = some x → ∃ u, vs[i]? = some u ∧ Rep Z w x u
 | [], vs, h, i, x, hx => by simp at hx
 | y :: xs, vs, h, i, x, hx => by
  simp only [Reps] at h
  obtain ⟨u, us, rfl, h2, h3⟩ := h
  cases i with
  | zero => simp at hx; subst hx; exact ⟨u, rfl, h2⟩
  | succ i => simpa using Reps.get h3 i x (by simpa using hx)
theorem AReps.set {Z : Nat → Prop} {lb : Lb} {w : World} {x : AV} {u : Value} (hx : ARep Z lb w x u) : ∀ {xs : List AV} {vs : List Value}, AReps Z lb w xs vs → ∀ i, AReps Z lb w (xs.set i x) (vs.set i u)
 | [], vs, h, i => by simp only [AReps] at h; subst h; simp [AReps]
 | y :: xs, vs, h, i => by
  simp only [AReps] at h
  obtain ⟨u', us, rfl, h2, h3⟩ := h
  cases i with
  | zero => simp only [List.set_cons_zero, AReps]; exact ⟨u, us, rfl, hx, h3⟩
  | succ i => simp only [List.set_cons_succ, AReps]; exact ⟨u', _, rfl, h2, AReps.set hx h3 i⟩
theorem Reps.set {Z : Nat → Prop} {w : World} {x : PV} {u : Value} (hx : Rep Z w x u) : ∀ {xs : List PV} {vs : List Value}, Reps Z w xs vs → ∀ i, Reps Z w (xs.set i x) (vs.set i u)
 | [], vs, h, i => by simp only [Reps] at h; subst h; simp [Reps]
 | y :: xs, vs, h, i => by
  simp only [Reps] at h
  obtain ⟨u', us, rfl, h2, h3⟩ := h
  cases i with
  | zero => simp only [List.set_cons_zero, Reps]; exact ⟨u, us, rfl, hx, h3⟩
  | succ i => simp only [List.set_cons_succ, Reps]; exact ⟨u', _, rfl, h2, Reps.set hx h3 i⟩
theorem AReps.append {Z : Nat → Prop} {lb : Lb} {w : World} : ∀ {xs ys : List AV} {vs us : List Value}, AReps Z lb w xs vs → AReps Z lb w ys us → AReps Z lb w (xs ++ ys) (vs ++ us)
 | [], _, vs, _, h, k => by simp only [AReps] at h; subst h; simpa using k
 | x :: xs, ys, vs, us, h, k => by
  simp only [AReps] at h
  obtain ⟨u, us', rfl, h2, h3⟩ := h
  simp only [List.cons_append, AReps]
  exact ⟨u, _, rfl, h2, AReps.append h3 k⟩
theorem Reps.append {Z : Nat → Prop} {w : World} : ∀ {xs ys : List PV} {vs us : List Value}, Reps Z w xs vs → Reps Z w ys us → Reps Z w (xs ++ ys) (vs ++ us)
 | [], _, vs, _, h, k => by simp only [Reps] at h; subst h; simpa using k
 | x :: xs, ys, vs, us, h, k => by
  simp only [Reps] at h
  obtain ⟨u, us', rfl, h2, h3⟩ := h
  simp only [List.cons_append, Reps]
  exact ⟨u, _, rfl, h2, Reps.append h3 k⟩
theorem Reps.split {Z : Nat → Prop} {w : World} : ∀ {xs ys : List PV} {vs : List Value}, Reps Z w (xs ++ ys) vs → ∃ us us', vs = us ++ us' ∧ Reps Z w xs us ∧ Reps Z w ys us'
 | [], ys, vs, h => ⟨[], vs, rfl, by simp [Reps], h⟩
 | x :: xs, ys, vs, h => by
  simp only [List.cons_append, Reps] at h
  obtain ⟨u, us', rfl, h2, h3⟩ := h
  obtain ⟨a, b, rfl, h4, h5⟩ := Reps.split h3
  exact ⟨u :: a, b, rfl, by simp only [Reps]; exact ⟨u, a, rfl, h2, h4⟩, h5⟩
theorem Reps.take {Z : Nat → Prop} {w : World} : ∀ {xs : List PV} {vs : List Value} (n : Nat), Reps Z w xs vs → Reps Z w (xs.take n) (vs.take n)
 | [], vs, n, h => by simp only [Reps] at h; subst h; simp [Reps]
 | x :: xs, vs, 0, h => by simp [Reps]
 | x :: xs, vs, n + 1, h => by
  simp only [Reps] at h
  obtain ⟨u, us, rfl, h2, h3⟩ := h
  simp only [List.take_succ_cons, Reps]
  exact ⟨u, _, rfl, h2, Reps.take n h3⟩
theorem Reps.drop {Z : Nat → Prop} {w : World} : ∀ {xs : List PV} {vs : List Value} (n : Nat), Reps Z w xs vs → Reps Z w (xs.drop n) (vs.drop n)
 | [], vs, n, h => by simp only [Reps] at h; subst h; simp [Reps]
 | x :: xs, vs, 0, h => by simpa using h
 | x :: xs, vs, n + 1, h => by
  simp only [Reps] at h
  obtain ⟨u, us, rfl, h2, h3⟩ := h
  simpa using Reps.drop n h3
theorem areps_p {Z : Nat → Prop} {lb : Lb} {w : World} : ∀ {xs : List PV} {vs : List Value}, AReps Z lb w (xs.map .p) vs ↔ Reps Z w xs vs
 | [], vs => by simp [Reps, AReps]
 | x :: xs, vs => by simp only [List.map_cons, AReps, Reps, ARep, areps_p]
theorem view_cases {Z : Nat → Prop} {w : World} {sz : Nat} {es : List PV} {u : Value} (h : Rep Z w (.view sz es) u) : (es = [] ∧ Rep Z w (.v (.slice none 0 0)) u) ∨ Rep Z w (.nview sz es) u := by
 simp only [Rep] at h ⊢
 obtain ⟨vs, base, cap, h1, h2, h3, h4, h5, h6⟩ := h
 cases base with
 | none =>
  obtain ⟨g1, g2⟩ := h6
  have hv : vs = [] := List.length_eq_zero_iff.1 g1
  subst hv
  have := h1.length
  refine .inl ⟨List.length_eq_zero_iff.1 (by simpa using this.symm), ?_, rfl⟩
  rw [h2, g2]; rfl
 | some a => exact .inr ⟨vs, a, cap, h1, h2, h3, h4, h5, h6⟩
structure FI where
 off : Nat
 size : Nat
 ty : TypeId
 named : Bool
 agg : Bool
inductive TK where
 | int (k : IntKind) | bool | str
 | struct (fs : List FI)
 | arr (n : Nat) (e : TypeId) (esz : Nat) (eagg : Bool) | slice (e : TypeId) (esz ebytes : Nat) (ezero : Value) | ptr (e : TypeId) | func | iface (empty : Bool) | map (k e : TypeId) (z : Value) | other
def TK.isAgg : TK → Bool | .struct _ => true | .arr _ _ _ _ => true | _ => false
def aggD : TypeDesc → Bool | .struct _ => true | .array _ _ => true | _ => false
def fieldsOf (P : Program) : List Field → Option (List FI)
 | [] => some []
 | f :: fs => match P.info? f.type, P.underlying f.type, fieldsOf P fs with
  | some i, some d, some r => some (⟨f.offset, i.size, f.type, f.name != "_", aggD d⟩ :: r)
  | _, _, _ => none
def kindOf (P : Program) : TypeDesc → Option TK
 | .int k => some (.int k) | .bool => some .bool | .string => some .str
 | .struct fs => match fieldsOf P fs.toList with
  | some l => some (.struct l)
  | none => none
 | .array n e => match P.info? e, P.underlying e with
  | some i, some d => some (.arr n e i.size (aggD d))
  | _, _ => none
 | .slice e => match P.info? e with
  | some i => match i.zero with
   | some z => some (.slice e i.size i.bytes z)
   | none => none
  | none => none
 | .map k e => match P.info? e with
  | some i => match i.zero with
   | some z => some (.map k e z)
   | none => none
  | none => none
 | .pointer e => some (.ptr e) | .func _ _ _ => some .func | .interface ms => some (.iface ms.isEmpty) | _ => some .other
structure TyI where
 k : TK
 size : Nat
 bytes : Nat
 zero : List Value
 held : Bool
 eqg : Bool
def tyOf (P : Program) (T : TypeId) : Option TyI :=
 match P.info? T, P.underlying T with
 | some i, some d => match i.zero, kindOf P d with
  | some z, some k => some ⟨k, i.size, i.bytes, vcells z, P.stoodInHeld T, P.eqGuardType P.depth T⟩
  | _, _ => none
 | _, _ => none
def tfind : List (TypeId × TyI) → TypeId → Option TyI
 | [], _ => none
 | (d, x) :: t, e => match Nat.beq d e with
  | true => some x
  | false => tfind t e
def methB (P : Program) (t : TypeId) (n : String) (f : FuncId) : Bool := match P.info? t, P.underlying t with
 | some inf, some (.pointer _) => (match inf.methods.find? (·.name == n) with
  | some m => m.path.isEmpty && (match m.func with
   | some (g, true) => Nat.beq f g
   | _ => false)
  | none => false)
 | _, _ => false
def mfind : List (TypeId × List (String × FuncId)) → TypeId → String → Option FuncId
 | [], _, _ => none
 | (t', l) :: r, t, n => match Nat.beq t' t with
  | true => (match l.find? fun p => p.1 == n with
   | some p => some p.2
   | none => none)
  | false => mfind r t n
structure Env where
 P : Program
 tys : List (TypeId × TyI)
 ok : ∀ T i, tfind tys T = some i → tyOf P T = some i
 mixed : P.follows .mixedOrders = true
 meths : List (TypeId × List (String × FuncId))
 mok : (meths.all fun p => p.2.all fun q => methB P p.1 q.1 q.2) = true
structure TyFacts (P : Program) (T : TypeId) (i : TyI) (d : TypeDesc) (inf : TypeInfo) (z : Value) : Prop where
 hi : P.info? T = some inf
 und : P.underlying T = some d
 zero : inf.zero = some z
 k : kindOf P d = some i.k
 size : i.size = inf.size
 bytes : i.bytes = inf.bytes
 zc : i.zero = vcells z
 held : i.held = P.stoodInHeld T
 eqg : i.eqg = P.eqGuardType P.depth T
theorem tyOf_some {P : Program} {T : TypeId} {i : TyI} (h : tyOf P T = some i) : ∃ d inf z, TyFacts P T i d inf z := by
 unfold tyOf at h
 split at h
 ·rename_i inf d h1 h2
  split at h
  ·rename_i z k hz hk
   simp only [Option.some.injEq] at h
   subst h
   exact ⟨d, inf, z, h1, h2, hz, hk, rfl, rfl, rfl, rfl, rfl⟩
  ·simp at h
 ·simp at h
theorem tfind_ok {P : Program} {tys : List (TypeId × TyI)} (h : tys.map (fun p => tyOf P p.1) = tys.map (fun p => some p.2)) : ∀ T i, tfind tys T = some i → tyOf P T = some i := by
 induction tys with
 | nil => intro T i hi; simp [tfind] at hi
 | cons p tys ih =>
  intro T i hi
  simp only [List.map_cons, List.cons.injEq] at h
  obtain ⟨d, x⟩ := p
  simp only [tfind] at hi
  split at hi
  ·rename_i hb
   have : d = T := Nat.eq_of_beq_eq_true hb
   subst this
   rw [← hi]; exact h.1
  ·exact ih h.2 T i hi
section
variable {P : Program} {T : TypeId} {i : TyI} {d : TypeDesc} {inf : TypeInfo} {z : Value} (F : TyFacts P T i d inf z) (w : World)
include F
theorem TyFacts.run_info : (typeInfo T).run P w = .ok inf w := run_typeInfo w F.hi
theorem TyFacts.run_size : (sizeOf T).run P w = .ok i.size w := by
 unfold sizeOf; simp [F.run_info, F.size]
theorem TyFacts.run_und : (underlying T).run P w = .ok d w := run_underlying F.und w
theorem TyFacts.run_zero : (zeroValue T).run P w = .ok z w := by
 unfold zeroValue; simp [F.run_info, F.zero]
theorem TyFacts.run_agg : (isAgg T).run P w = .ok i.k.isAgg w := by
 have hk := F.k
 unfold isAgg; simp only [Sem.run_bind, F.run_und, Result.andThen_ok]
 cases d <;> simp only [kindOf] at hk <;> (repeat' split at hk) <;> simp only [Option.some.injEq, reduceCtorEq] at hk <;> rw [← hk] <;> rfl
end
def arrSplice (c : Array Value) (o : Nat) : List Value → Array Value
 | [] => c
 | v :: vs => arrSplice (c.setIfInBounds o v) (o + 1) vs
theorem arrSplice_size : ∀ (vs : List Value) (c : Array Value) (o : Nat), (arrSplice c o vs).size = c.size
 | [], _, _ => rfl
 | v :: vs, c, o => by simp [arrSplice, arrSplice_size vs]
def wput (w : World) (b : Nat) (c : Array Value) : World :=
 {w with heap := w.heap.modify b fun
   | .cells _ e f => .cells c e f
   | o => o }
theorem put_heap {w : World} {b : Nat} {c c' : Array Value} {ty : TypeId} {fr : Nat × Nat} (h : w.heap[b]? = some (.cells c ty fr)) : (wput w b c').heap[b]? = some (.cells c' ty fr) := by
 simp [wput, Array.getElem?_modify, h]
theorem put_heap_other {w : World} {b k : Nat} {c' : Array Value} (h : k ≠ b) : (wput w b c').heap[k]? = w.heap[k]? := by
 simp only [wput, Array.getElem?_modify]
 rw [if_neg (by omega)]
theorem put_size {w : World} {b : Nat} {c' : Array Value} : (wput w b c').heap.size = w.heap.size := by simp [wput]
theorem setCell_put {w : World} {b o : Nat} {v : Value} {c : Array Value} {ty : TypeId} {fr : Nat × Nat} (h : w.heap[b]? = some (.cells c ty fr)) : w.setCell ⟨b, o, none⟩ v = wput w b (c.setIfInBounds o v) := by
 have hb : b < w.heap.size := by
  rcases Nat.lt_or_ge b w.heap.size with h' | h'
  ·exact h'
  ·simp [Array.getElem?_eq_none h'] at h
 unfold World.setCell wput
 congr 1
 apply Array.ext_getElem?
 intro k
 simp only [Array.getElem?_modify]
 split
 ·rename_i hk; subst hk; simp [h]
 ·rfl
theorem put_put {w : World} {b : Nat} {c c' : Array Value} : wput (wput w b c) b c' = wput w b c' := by
 unfold wput
 congr 1
 apply Array.ext_getElem?
 intro k
 simp only [Array.getElem?_modify]
 split
 ·cases w.heap[k]? with
  | none => rfl
  | some o => cases o <;> simp
 ·rfl
theorem run_storeCells_ab (P : Program) (b o : Nat) (ty : TypeId) (fr : Nat × Nat) : ∀ (vs : List Value) (i : Nat) (c : Array Value) (w : World),
  w.heap[b]? = some (.cells c ty fr) → o + i + vs.length ≤ c.size → Unfrozen fr c.size → AllOne vs →
  (storeCells ⟨b, o, none⟩ vs i).run P w = .ok () (wput w b (arrSplice c (o + i) vs))
 | [], i, c, w, h, _, _, _ => by
  have : wput w b c = w := by
   unfold wput
   have : (w.heap.modify b fun | .cells _ e f => .cells c e f | o => o) = w.heap := by
    apply Array.ext_getElem?
    intro k
    simp only [Array.getElem?_modify]
    split
    ·rename_i hk; subst hk; simp [h]
    ·rfl
   rw [this]
  simp [storeCells, arrSplice, this]
 | v :: vs, i, c, w, h, hle, hf, h1 => by
  have hadd : (⟨b, o, none⟩ : Addr).add i = ⟨b, o + i, none⟩ := by
   unfold Addr.add; split
   ·rename_i h0; subst h0; rfl
   ·rfl
  simp only [List.length_cons] at hle
  have hv : v.oneCell' = true := by
   have := h1 v List.mem_cons_self
   cases v <;> simp_all [oneB, Value.oneCell']
  have hcell : w.cell? ⟨b, o + i, none⟩ = some c[o + i] := by
   simp [World.cell?, h]
  have hfz : w.frozen? ⟨b, o + i, none⟩ = false := by
   have := hf.no (o + i) (by omega)
   simp only [World.frozen?, h]
   simp; omega
  have hput := setCell_put (o := o + i) (v := v) h
  have h' := put_heap (c' := c.setIfInBounds (o + i) v) h
  have ih := run_storeCells_ab P b o ty fr vs (i + 1) (c.setIfInBounds (o + i) v) (wput w b (c.setIfInBounds (o + i) v)) h' (by simp; omega) (by simpa using hf) (fun x hx => h1 x (List.mem_cons_of_mem _ hx))
  simp only [storeCells, Sem.run_bind, hadd, run_store P w _ v _ hv, hcell, hfz, Bool.false_eq_true, if_false, Result.andThen_ok, hput, ih, put_put, arrSplice]
  rfl
theorem arrSplice_get : ∀ (vs : List Value) (c : Array Value) (o k : Nat), o + vs.length ≤ c.size → (arrSplice c o vs)[k]? = if o ≤ k ∧ k < o + vs.length then vs[k - o]? else c[k]?
 | [], c, o, k, _ => by simp [arrSplice]; omega
 | v :: vs, c, o, k, h => by
  simp only [List.length_cons] at h
  rw [arrSplice, arrSplice_get vs _ (o + 1) k (by simp; omega)]
  by_cases h1 : o = k
  ·subst h1
   rw [if_neg (by omega), if_pos (by simp), Array.getElem?_setIfInBounds_self_of_lt (by omega)]
   simp
  ·rw [Array.getElem?_setIfInBounds_ne h1]
   by_cases h2 : o + 1 ≤ k ∧ k < o + 1 + vs.length
   ·rw [if_pos h2, if_pos (by simp; omega)]
    rw [show k - o = (k - (o + 1)) + 1 by omega]
    simp
   ·rw [if_neg h2, if_neg (by simp; omega)]
theorem addr_add (b o n : Nat) : (⟨b, o, none⟩ : Addr).add n = ⟨b, o + n, none⟩ := by
 unfold Addr.add; split
 ·rename_i h0; subst h0; rfl
 ·rfl
end Go.Ab
namespace Go.Ab
variable [Glob]
def forceA : List AV → (List AV → Prop) → Prop
 | [], k => k []
 | x :: xs, k => forceA xs fun l => k (x :: l)
theorem forceA_eq : ∀ (l : List AV) (k : List AV → Prop), forceA l k = k l
 | [], _ => rfl
 | x :: xs, k => by rw [forceA, forceA_eq xs]
def forceP : List PV → (List PV → Prop) → Prop
 | [], k => k []
 | x :: xs, k => forceP xs fun l => k (x :: l)
theorem forceP_eq : ∀ (l : List PV) (k : List PV → Prop), forceP l k = k l
 | [], _ => rfl
 | x :: xs, k => by rw [forceP, forceP_eq xs]
structure Tag {α : Type} (k : α) : Type where
 mk ::
structure fork (b : Bool) (A B : Prop) (_ : Tag A := ⟨⟩) (_ : Tag B := ⟨⟩) : Prop where
 run : match b with
  | true => A
  | false => B
def onO {α : Type} (x : Option α) (A : Prop) (k : α → Prop) : Prop := match x with
 | some y => k y
 | none => A
def hideP (A : Prop) (_ : Tag A) : Prop := A
def pickE {α : Type} (A : α → Prop) (k : α → Prop) (_ : Tag k) : Prop := ∃ e, A e ∧ k e
theorem zA {α : Type} {A k : α → Prop} {t : Tag k} (e : α) (h : A e) (hk : k e) : pickE A k t := ⟨e, h, hk⟩
theorem zC {α β : Type} {f : α → β} {l : List α} {j : Nat} {k : β → Prop} {t : Tag k} (d : α) (h1 : j < l.length) (hk : k (f (l.getD j d))) : pickE (fun e => (l.map f)[j]? = some e) k t := by
 refine ⟨_, ?_, hk⟩
 simp [List.getD_eq_getElem?_getD, h1]
theorem zL {b : Bool} {A B : Prop} (h1 : b = true → A) (h2 : b = false → B) : fork b A B := by
 cases b
 ·exact ⟨h2 rfl⟩
 ·exact ⟨h1 rfl⟩
def kbeq : IntKind → IntKind → Bool
 | .i8, .i8 => true | .i16, .i16 => true | .i32, .i32 => true | .i64, .i64 => true
 | .u8, .u8 => true | .u16, .u16 => true | .u32, .u32 => true | .u64, .u64 => true
 | _, _ => false
theorem kbeq_eq {a b : IntKind} (h : kbeq a b = true) : a = b := by cases a <;> cases b <;> simp_all [kbeq]
def nth {α : Type} : List α → Nat → Option α
 | [], _ => none
 | x :: _, 0 => some x
 | _ :: xs, n + 1 => nth xs n
theorem nth_eq {α : Type} : ∀ (l : List α) (n : Nat), nth l n = l[n]?
 | [], n => by simp [nth]
 | x :: xs, 0 => rfl
 | x :: xs, n + 1 => by simp [nth, nth_eq xs n]
def takeN {α : Type} : Nat → List α → Option (List α)
 | 0, _ => some []
 | n + 1, x :: xs => match takeN n xs with
  | some l => some (x :: l)
  | none => none
 | _ + 1, [] => none
theorem takeN_some {α : Type} : ∀ (n : Nat) (l l' : List α), takeN n l = some l' → l' = l.take n ∧ n ≤ l.length
 | 0, l, l', h => by simp [takeN] at h; subst h; simp
 | n + 1, [], l', h => by simp [takeN] at h
 | n + 1, x :: xs, l', h => by
  simp only [takeN] at h
  split at h
  ·rename_i l0 h0
   obtain ⟨h1, h2⟩ := takeN_some n xs l0 h0
   simp at h; subst h; subst h1
   simpa using h2
  ·simp at h
def lsp {α : Type} (c : List α) (o : Nat) : List α → List α
 | [] => c
 | v :: vs => lsp (c.set o v) (o + 1) vs
theorem lsp_length {α : Type} : ∀ (vs c : List α) (o : Nat), (lsp c o vs).length = c.length
 | [], _, _ => rfl
 | v :: vs, c, o => by simp [lsp, lsp_length vs]
theorem arrSplice_list : ∀ (vs c : List Value) (o : Nat), arrSplice c.toArray o vs = (lsp c o vs).toArray
 | [], _, _ => rfl
 | v :: vs, c, o => by rw [arrSplice, lsp, ← arrSplice_list vs]; simp
theorem AReps.lsp {Z : Nat → Prop} {lb : Lb} {w : World} : ∀ {ys : List AV} {us : List Value} {xs : List AV} {vs : List Value} (o : Nat), AReps Z lb w xs vs → AReps Z lb w ys us →
  AReps Z lb w (lsp xs o ys) (Ab.lsp vs o us)
 | [], us, xs, vs, o, h, k => by simp only [AReps] at k; subst k; exact h
 | y :: ys, us, xs, vs, o, h, k => by
  simp only [AReps] at k
  obtain ⟨u, us', rfl, h2, h3⟩ := k
  simp only [Ab.lsp]
  exact AReps.lsp (o + 1) (AReps.set h2 h o) h3
theorem AllOne.lsp : ∀ {us vs : List Value} (o : Nat), AllOne vs → AllOne us → AllOne (Ab.lsp vs o us)
 | [], vs, o, h, _ => h
 | u :: us, vs, o, h, k => by
  simp only [Ab.lsp]
  refine AllOne.lsp (o + 1) ?_ fun x hx => k x (List.mem_cons_of_mem _ hx)
  intro x hx
  rcases List.mem_or_eq_of_mem_set hx with h1 | h1
  ·exact h x h1
  ·subst h1; exact k _ List.mem_cons_self
def unp : List AV → Option (List PV)
 | [] => some []
 | .p x :: xs => match unp xs with
  | some l => some (x :: l)
  | none => none
 | _ :: _ => none
theorem unp_some : ∀ (l : List AV) (l' : List PV), unp l = some l' → l = l'.map .p
 | [], l', h => by simp [unp] at h; subst h; rfl
 | x :: xs, l', h => by
  cases x <;> simp only [unp] at h <;> try (simp at h; done)
  split at h
  ·rename_i l0 h0
   simp at h; subst h
   simp [unp_some xs l0 h0]
  ·simp at h
def mkAgg (cs : List AV) : AV := match unp cs with
 | some l => .p (.agg l)
 | none => .agg cs
theorem mkAgg_rep {Z : Nat → Prop} {lb : Lb} {w : World} {cs : List AV} {vs : List Value} (h : AReps Z lb w cs vs) (h1 : AllOne vs) : ARep Z lb w (mkAgg cs) (.agg vs.toArray) := by
 unfold mkAgg
 split
 ·rename_i l hl
  rw [unp_some _ _ hl, areps_p] at h
  simp only [ARep, Rep]
  exact ⟨vs, h, rfl, h1⟩
 ·simp only [ARep]
  exact ⟨vs, h, rfl, h1⟩
def mapP : List PV → List AV
 | [] => []
 | x :: xs => .p x :: mapP xs
theorem mapP_eq : ∀ l, mapP l = l.map .p
 | [] => rfl
 | x :: xs => by simp [mapP, mapP_eq xs]
def acells : AV → Option (List AV)
 | .p (.agg cs) => some (mapP cs)
 | .agg cs => some cs
 | .p (.tup _) => none
 | .tup _ => none
 | x => some [x]
theorem acells_rep {Z : Nat → Prop} {lb : Lb} {w : World} {x : AV} {u : Value} {cs : List AV} (h : ARep Z lb w x u) (hc : acells x = some cs) : AReps Z lb w cs (vcells u) ∧ AllOne (vcells u) := by
 have one : ∀ {y : AV} {v : Value}, ARep Z lb w y v → (v.cells = #[v]) → oneB v = true → AReps Z lb w [y] (vcells v) ∧ AllOne (vcells v) := by
  intro y v hy hv ho
  unfold vcells
  rw [hv]
  exact ⟨⟨v, [], rfl, hy, rfl⟩, fun x hx => by simp at hx; subst hx; exact ho⟩
 cases x with
 | p y =>
  cases y with
  | agg l =>
   simp only [acells, Option.some.injEq] at hc; subst hc
   simp only [ARep, Rep] at h
   obtain ⟨vs, h1, rfl, h2⟩ := h
   rw [mapP_eq, areps_p]
   simp only [vcells, Value.cells]
   exact ⟨h1, h2⟩
  | tup l => simp [acells] at hc
  | v z =>
   simp only [acells, Option.some.injEq] at hc; subst hc
   have h' := h
   simp only [ARep, Rep] at h'
   obtain ⟨rfl, h1⟩ := h'
   refine one h ?_ h1
   cases u <;> first | rfl | (simp [oneB] at h1)
  | view sz es =>
   simp only [acells, Option.some.injEq] at hc; subst hc
   have h' := h
   simp only [ARep, Rep] at h'
   obtain ⟨vs, base, cap, _, rfl, _⟩ := h'
   exact one h rfl rfl
  | nview sz es =>
   simp only [acells, Option.some.injEq] at hc; subst hc
   have h' := h
   simp only [ARep, Rep] at h'
   obtain ⟨vs, base, cap, _, rfl, _⟩ := h'
   exact one h rfl rfl
  | eptr l off =>
   simp only [acells, Option.some.injEq] at hc; subst hc
   have h' := h
   simp only [ARep, Rep] at h'
   obtain ⟨vs, base, cap, _, _, rfl, _⟩ := h'
   exact one h rfl rfl
  | fn f l =>
   simp only [acells, Option.some.injEq] at hc; subst hc
   have h' := h
   simp only [ARep, Rep] at h'
   obtain ⟨vs, _, rfl⟩ := h'
   exact one h rfl rfl
  | ifc f l =>
   simp only [acells, Option.some.injEq] at hc; subst hc
   have h' := h
   simp only [ARep, Rep] at h'
   obtain ⟨vs, _, rfl⟩ := h'
   exact one h rfl rfl
  | rv g y =>
   simp only [acells, Option.some.injEq] at hc; subst hc
   have h' := h
   simp only [ARep, Rep] at h'
   obtain ⟨rfl, h1, _⟩ := h'
   refine one h ?_ h1
   cases u <;> first | rfl | (simp [oneB] at h1)
 | loc i off =>
  simp only [acells, Option.some.injEq] at hc; subst hc
  have h' := h
  simp only [ARep] at h'
  obtain ⟨b, _, rfl⟩ := h'
  exact one h rfl rfl
 | eloc i sz k off =>
  simp only [acells, Option.some.injEq] at hc; subst hc
  have h' := h
  simp only [ARep] at h'
  obtain ⟨b, _, rfl⟩ := h'
  exact one h rfl rfl
 | mref i =>
  simp only [acells, Option.some.injEq] at hc; subst hc
  have h' := h
  simp only [ARep] at h'
  obtain ⟨b, _, rfl⟩ := h'
  exact one h rfl rfl
 | sl i sz st n =>
  simp only [acells, Option.some.injEq] at hc; subst hc
  have h' := h
  simp only [ARep] at h'
  rcases h' with ⟨_, _, _, rfl⟩ | ⟨b, cap, _, rfl, _⟩
  ·exact one h rfl rfl
  ·exact one h rfl rfl
 | agg l =>
  simp only [acells, Option.some.injEq] at hc; subst hc
  simp only [ARep] at h
  obtain ⟨vs, h1, rfl, h2⟩ := h
  simp only [vcells, Value.cells]
  exact ⟨h1, h2⟩
 | tup l => simp [acells] at hc
 | fn f l =>
  simp only [acells, Option.some.injEq] at hc; subst hc
  have h' := h
  simp only [ARep] at h'
  obtain ⟨vs, _, rfl⟩ := h'
  exact one h rfl rfl
 | ifc t l =>
  simp only [acells, Option.some.injEq] at hc; subst hc
  have h' := h
  simp only [ARep] at h'
  obtain ⟨vs, _, rfl⟩ := h'
  exact one h rfl rfl
def pcells : PV → Option (List PV)
 | .agg cs => some cs
 | .tup _ => none
 | x => some [x]
theorem pcells_rep {Z : Nat → Prop} {w : World} {x : PV} {u : Value} {cs : List PV} (h : Rep Z w x u) (hc : pcells x = some cs) : Reps Z w cs (vcells u) ∧ AllOne (vcells u) := by
 have h1 : acells (.p x) = some (mapP cs) := by
  cases x <;> simp_all [acells, pcells]
  all_goals (subst hc; rfl)
 have := acells_rep (Z := Z) (lb := []) (w := w) (x := .p x) (u := u) (by simpa [ARep] using h) h1
 rw [mapP_eq, areps_p] at this
 exact this
def cst : Value → Option AV
 | .agg cs => some (.p (.agg (cs.toList.map .v)))
 | .tuple _ => none
 | v => some (.p (.v v))
def ev (t : List (Nat × Option AV)) : Operand → Option AV
 | .tmp d => tget t d
 | .const v => match v with
  | .agg _ => none
  | .tuple _ => none
  | v => some (.p (.v v))
 | .func f => some (.p (.fn f []))
 | .global g => match gfind Glob.tab g with
  | some cs => some (.p (.eptr cs 0))
  | none => none
theorem ev_rep {Z : Nat → Prop} {lb : Lb} {s : ASt} {a : Act} {w : World} (h : St Z lb s a w) {x : Operand} {y : AV} (hy : ev s.t x = some y) : ARep Z lb w y (a.eval x) := by
 cases x with
 | tmp d =>
  obtain ⟨u, h1, h2⟩ := h.tm d y hy
  simpa [Act.eval, Array.getD_eq_getD_getElem?, h1] using h2
 | const v => cases v <;> simp_all [ev] <;> (subst hy; simp [ARep, Rep, Act.eval, oneB])
 | func f =>
  simp only [ev, Option.some.injEq] at hy
  subst hy
  simp only [ARep, Rep, Act.eval, Reps]
  exact ⟨[], rfl, rfl⟩
 | global g =>
  simp only [ev] at hy
  split at hy
  ·rename_i cs hcs
   simp only [Option.some.injEq] at hy
   subst hy
   obtain ⟨hz, vs, h1, h2, h3⟩ := Glob.ok h.own.zlt.gl hcs
   simp only [ARep, Rep, Act.eval]
   exact ⟨vs, g, 0, h1, h2, rfl, hz, h3⟩
  ·simp at hy
structure Eff where
 val : Option AV
 rd : List Nat
 wr : List (Nat × Option Ob)
def setL : List (Option Ob) → Nat → Option Ob → List (Option Ob)
 | [], _, _ => []
 | _ :: l, 0, o => o :: l
 | x :: l, n + 1, o => x :: setL l n o
theorem setL_eq : ∀ (l : List (Option Ob)) (n : Nat) (o : Option Ob), setL l n o = l.set n o
 | [], _, _ => rfl
 | _ :: _, 0, _ => rfl
 | x :: l, n + 1, o => by simp [setL, setL_eq l n o]
def setAll : List (Option Ob) → List (Nat × Option Ob) → List (Option Ob)
 | L, [] => L
 | L, (k, o) :: r => setAll (setL L k o) r
def tput (t : List (Nat × Option AV)) (dst : Option Tmp) (x : Option AV) : List (Nat × Option AV) := match dst with
 | some d => (d, x) :: t
 | none => t
def ASt.app (s : ASt) (dst : Option Tmp) (e : Eff) : ASt := { n := s.n, t := tput s.t dst e.val, L := setAll s.L e.wr }
def okDst (n : Nat) : Option Tmp → Bool
 | some d => Nat.blt d n
 | none => true
def OpAt (P : Program) (o : Oper) (s : ASt) (e : Eff) : Prop := ∀ Z lb a w, St Z lb s a w → ∀ (K : Act → World → Prop) (Q : Exit → Act → World → Prop),
 (∀ Z' lb' a' w', Stp Z lb w Z' lb' w' → St Z' lb' (s.app o.dst e) a' w' → a'.defers = a.defers → K a' w') → o.wp P a w K Q
theorem St.put {Z Z' : Nat → Prop} {lb lb' : Lb} {s : ASt} {a : Act} {w w' : World} (h : St Z lb s a w) (k : Stp Z lb w Z' lb' w') {L' : List (Option Ob)} (ho : Own Z' lb' L' w')
  {dst : Option Tmp} (hd : okDst s.n dst = true) {x : Option AV} {u : Value} (hx : ∀ y, x = some y → ARep Z' lb' w' y u) : St Z' lb' { n := s.n, t := tput s.t dst x, L := L' } (a.put dst u) w' := by
 refine ⟨ho, ?_, by cases dst <;> exact h.df.stp k, by cases dst <;> simp [Act.put, h.sz]⟩
 intro d y hy
 cases dst with
 | none =>
  obtain ⟨u', h1, h2⟩ := h.tm d y hy
  exact ⟨u', h1, k.arep h2⟩
 | some e =>
  have he : e < a.tmps.size := by rw [h.sz]; simpa [okDst, Nat.blt_eq] using hd
  simp only [tput, tget] at hy
  split at hy
  ·rename_i hb
   have : e = d := Nat.eq_of_beq_eq_true hb
   subst this
   refine ⟨u, by simp [Act.put, he], hx y hy⟩
  ·rename_i hb
   have hne : e ≠ d := fun hh => by subst hh; simp at hb
   obtain ⟨u', h1, h2⟩ := h.tm d y hy
   exact ⟨u', by simp [Act.put, Array.getElem?_setIfInBounds_ne hne, h1], k.arep h2⟩
theorem put_df {a : Act} {dst : Option Tmp} {v : Value} : (a.put dst v).defers = a.defers := by cases dst <;> rfl
theorem opAt_val {P : Program} {o : Oper} {s : ASt} {x : AV} {rd : List Nat} (hd : okDst s.n o.dst = true)
  (h : ∀ Z lb a w, St Z lb s a w → ∃ u, (execOp a.eval o).run P w = .ok (.value u) w ∧ ARep Z lb w x u) : OpAt P o s ⟨some x, rd, []⟩ := by
 intro Z lb a w hs K Q hK
 obtain ⟨u, h1, h2⟩ := h Z lb a w hs
 unfold Oper.wp
 rw [h1]
 exact hK Z lb _ w (Stp.refl _ _ _) (hs.put (Stp.refl _ _ _) hs.own hd (fun y hy => by cases hy; exact h2)) put_df
theorem opAt_chg {P : Program} {o : Oper} {s : ASt} {x : AV} {rd : List Nat} {wr : List (Nat × Option Ob)} (hd : okDst s.n o.dst = true)
  (h : ∀ Z lb a w, St Z lb s a w → ∃ u w' Z' lb', (execOp a.eval o).run P w = .ok (.value u) w' ∧ Stp Z lb w Z' lb' w' ∧ Own Z' lb' (setAll s.L wr) w' ∧ ARep Z' lb' w' x u) : OpAt P o s ⟨some x, rd, wr⟩ := by
 intro Z lb a w hs K Q hK
 obtain ⟨u, w', Z', lb', h1, h2, h3, h4⟩ := h Z lb a w hs
 unfold Oper.wp
 rw [h1]
 exact hK Z' lb' _ w' h2 (hs.put h2 h3 hd (fun y hy => by cases hy; exact h4)) put_df
theorem opAt_skip {P : Program} {o : Oper} {s : ASt} {rd : List Nat} {wr : List (Nat × Option Ob)} (hd : okDst s.n o.dst = true)
  (h : ∀ Z lb a w, St Z lb s a w → ∃ w' Z' lb', (execOp a.eval o).run P w = .ok .skip w' ∧ Stp Z lb w Z' lb' w' ∧ Own Z' lb' (setAll s.L wr) w') : OpAt P o s ⟨none, rd, wr⟩ := by
 intro Z lb a w hs K Q hK
 obtain ⟨w', Z', lb', h1, h2, h3⟩ := h Z lb a w hs
 unfold Oper.wp
 rw [h1]
 exact hK Z' lb' _ w' h2 (hs.put h2 h3 hd (fun y hy => by cases hy)) put_df
end Go.Ab
namespace Go.Ab
variable [Glob]
theorem AReps.take {Z : Nat → Prop} {lb : Lb} {w : World} : ∀ {xs : List AV} {vs : List Value} (n : Nat), AReps Z lb w xs vs → AReps Z lb w (xs.take n) (vs.take n)
 | [], vs, n, h => by simp only [AReps] at h; subst h; simp [AReps]
 | x :: xs, vs, 0, h => by simp [AReps]
 | x :: xs, vs, n + 1, h => by
  simp only [AReps] at h
  obtain ⟨u, us, rfl, h2, h3⟩ := h
  simp only [List.take_succ_cons, AReps]
  exact ⟨u, _, rfl, h2, AReps.take n h3⟩
theorem AReps.drop {Z : Nat → Prop} {lb : Lb} {w : World} : ∀ {xs : List AV} {vs : List Value} (n : Nat), AReps Z lb w xs vs → AReps Z lb w (xs.drop n) (vs.drop n)
 | [], vs, n, h => by simp only [AReps] at h; subst h; simp [AReps]
 | x :: xs, vs, 0, h => by simpa using h
 | x :: xs, vs, n + 1, h => by
  simp only [AReps] at h
  obtain ⟨u, us, rfl, h2, h3⟩ := h
  simpa using AReps.drop n h3
theorem AllOne.take {vs : List Value} (n : Nat) (h : AllOne vs) : AllOne (vs.take n) := fun x hx => h x (List.mem_of_mem_take hx)
theorem AllOne.drop {vs : List Value} (n : Nat) (h : AllOne vs) : AllOne (vs.drop n) := fun x hx => h x (List.mem_of_mem_drop hx)
theorem bsize_of {w : World} {b : Nat} {c : Array Value} {ty : TypeId} {fr : Nat × Nat} (h : w.heap[b]? = some (.cells c ty fr)) : bsize w b = c.size := by simp [bsize, h]
theorem ObAt.mono {Z Z' : Nat → Prop} {lb lb' : Lb} {w w' : World} (st : Stp Z lb w Z' lb' w') {o : Ob} {x : Option Nat} (h : ObAt Z lb w o x)
  (hb : ∀ b, o.live → x = some b → w'.heap[b]? = w.heap[b]? ∧ ¬ Z' b) : ObAt Z' lb' w' o x := by
 cases o with
 | dead => trivial
 | var cs =>
  cases x with
  | none => exact h
  | some b =>
   obtain ⟨h1, h2, vs, ty, fr, h3, h4, h5, h6⟩ := h
   obtain ⟨g1, g2⟩ := hb b trivial rfl
   exact ⟨g2, Nat.lt_of_lt_of_le h2 st.size, vs, ty, fr, st.areps h3, h4, g1.trans h5, h6⟩
 | mpx kk es cl =>
  cases x with
  | none => exact h
  | some b =>
   obtain ⟨h1, h2, h3⟩ := h
   obtain ⟨g1, g2⟩ := hb b trivial rfl
   exact ⟨g2, Nat.lt_of_lt_of_le h2 st.size, g1.trans h3⟩
 | it q since seen last =>
  cases x with
  | none => exact h
  | some b =>
   obtain ⟨h1, h2, mo, h3, h4⟩ := h
   obtain ⟨g1, g2⟩ := hb b trivial rfl
   exact ⟨g2, Nat.lt_of_lt_of_le h2 st.size, mo, st.arep h3, g1.trans h4⟩
 | pvar m cs =>
  cases x with
  | none => exact h
  | some b =>
   obtain ⟨h1, h2, vs, arr, ty, fr, h3, h4, h5, h6⟩ := h
   obtain ⟨g1, g2⟩ := hb b trivial rfl
   exact ⟨g2, Nat.lt_of_lt_of_le h2 st.size, vs, arr, ty, fr, st.areps h3, h4, g1.trans h5, h6⟩
 | lp l mk n ds cs =>
  cases x with
  | none => exact h
  | some b =>
   obtain ⟨h1, h2, h2', vs, tm, h3, h4, h5, h6⟩ := h
   obtain ⟨g1, g2⟩ := hb b trivial rfl
   exact ⟨g2, Nat.lt_of_lt_of_le h2 st.size, h2', vs, tm, st.areps h3, h4, g1.trans h5, h6⟩
 | arr sz es =>
  cases x with
  | none => exact h
  | some b =>
   obtain ⟨h1, h2, vs, arr, ty, fr, h3, h4, h5, h6, h7⟩ := h
   obtain ⟨g1, g2⟩ := hb b trivial rfl
   exact ⟨g2, Nat.lt_of_lt_of_le h2 st.size, vs, arr, ty, fr, st.reps h3, h4, h5, g1.trans h6, h7⟩
 | bld T q =>
  cases x with
  | none => exact h
  | some b =>
   obtain ⟨h1, h2, p, v, h3, h4, h5, h6⟩ := h
   obtain ⟨g1, g2⟩ := hb b trivial rfl
   refine ⟨g2, Nat.lt_of_lt_of_le h2 st.size, p, v, g1.trans h3, h4, st.arep h5, fun a n cap e => ?_⟩
   obtain ⟨k1, k2, k3⟩ := h6 a n cap e
   exact ⟨k1, Nat.lt_of_lt_of_le k2 st.size, (st.bs _ k2).trans k3⟩
 | byt e bs =>
  cases x with
  | none => exact h
  | some b =>
   obtain ⟨h1, h2, cur, fz, h3, h4⟩ := h
   obtain ⟨g1, g2⟩ := hb b trivial rfl
   exact ⟨g2, Nat.lt_of_lt_of_le h2 st.size, cur, fz, g1.trans h3, h4⟩
 | mp kk ek =>
  cases x with
  | none => exact h
  | some b =>
   obtain ⟨h1, h2, es, cl, h3, h4⟩ := h
   obtain ⟨g1, g2⟩ := hb b trivial rfl
   exact ⟨g2, Nat.lt_of_lt_of_le h2 st.size, es, cl, g1.trans h3, h4⟩
theorem ObAt.block {Z : Nat → Prop} {lb : Lb} {w : World} {o : Ob} {b : Nat} (h : ObAt Z lb w o (some b)) (hl : o.live) : ¬ Z b ∧ b < w.heap.size := by
 cases o with
 | dead => exact hl.elim
 | var cs => exact ⟨h.1, h.2.1⟩
 | arr sz es => exact ⟨h.1, h.2.1⟩
 | bld T q => exact ⟨h.1, h.2.1⟩
 | byt e bs => exact ⟨h.1, h.2.1⟩
 | mp kk ek => exact ⟨h.1, h.2.1⟩
 | pvar m cs => exact ⟨h.1, h.2.1⟩
 | mpx kk es cl => exact ⟨h.1, h.2.1⟩
 | it q since seen last => exact ⟨h.1, h.2.1⟩
 | lp l mk n ds cs => exact ⟨h.1, h.2.1⟩
theorem Own.upd {Z Z' : Nat → Prop} {lb lb' : Lb} {L : List (Option Ob)} {w w' : World} {k : Nat} {o' : Ob} {x' : Option Nat} (h : Own Z lb L w) (st : Stp Z lb w Z' lb' w')
  (hk : k < L.length) (hx : lb'[k]? = some (some x')) (hob : ObAt Z' lb' w' o' x')
  (hoth : ∀ (i : Nat) o b, i ≠ k → L[i]? = some (some o) → o.live → lb[i]? = some (some (some b)) → w'.heap[b]? = w.heap[b]? ∧ ¬ Z' b ∧ x' ≠ some b)
  (hhole : ∀ i : Nat, i ≠ k → L[i]? = some none → lb'[i]? = some none)
  (hz : ∀ b, Z' b → b < w'.heap.size) : Own Z' lb' (L.set k (some o')) w' where
 len := by rw [st.len, h.len, List.length_set]
 obj := by
  intro i o hi
  by_cases hik : i = k
  ·subst hik
   rw [List.getElem?_set_self hk] at hi
   simp only [Option.some.injEq] at hi
   subst hi
   exact ⟨x', hx, hob⟩
  ·rw [List.getElem?_set_ne (fun hh => hik hh.symm)] at hi
   obtain ⟨x, h1, h2⟩ := h.obj i o hi
   exact ⟨x, st.le i x h1, h2.mono st fun b hl hb => by subst hb; obtain ⟨g1, g2, _⟩ := hoth i o b hik hi hl h1; exact ⟨g1, g2⟩⟩
 hole := by
  intro i hi
  by_cases hik : i = k
  ·subst hik
   rw [List.getElem?_set_self hk] at hi
   simp at hi
  ·rw [List.getElem?_set_ne (fun hh => hik hh.symm)] at hi
   exact hhole i hik hi
 inj := by
  have back : ∀ (i : Nat) o b, i ≠ k → L[i]? = some (some o) → lb'[i]? = some (some (some b)) → lb[i]? = some (some (some b)) := by
   intro i o b _ h1 h2
   obtain ⟨x, h3, _⟩ := h.obj i o h1
   have := st.le i x h3
   rw [this] at h2
   simp only [Option.some.injEq] at h2
   subst h2; exact h3
  intro i j o o₂ b hi hj hl hl2 hb hb2
  by_cases hik : i = k
  ·by_cases hjk : j = k
   ·rw [hik, hjk]
   ·rw [List.getElem?_set_ne (fun hh => hjk hh.symm)] at hj
    subst hik
    rw [hx] at hb
    simp only [Option.some.injEq] at hb
    exact absurd hb (hoth j o₂ b hjk hj hl2 (back j o₂ b hjk hj hb2)).2.2
  ·rw [List.getElem?_set_ne (fun hh => hik hh.symm)] at hi
   by_cases hjk : j = k
   ·subst hjk
    rw [hx] at hb2
    simp only [Option.some.injEq] at hb2
    exact absurd hb2 (hoth i o b hik hi hl (back i o b hik hi hb)).2.2
   ·rw [List.getElem?_set_ne (fun hh => hjk hh.symm)] at hj
    exact h.inj i j o o₂ b hi hj hl hl2 (back i o b hik hi hb) (back j o₂ b hjk hj hb2)
 zlt := ⟨hz, Glob.mono st.z1 st.keep h.zlt.gl⟩
theorem Own.kill {Z : Nat → Prop} {lb : Lb} {L : List (Option Ob)} {w : World} (h : Own Z lb L w) {k : Nat} {o : Ob} (hk : L[k]? = some (some o)) : Own Z lb (L.set k (some .dead)) w := by
 obtain ⟨x, h1, _⟩ := h.obj k o hk
 have hlt : k < L.length := by
  rcases Nat.lt_or_ge k L.length with h' | h'
  ·exact h'
  ·simp [List.getElem?_eq_none h'] at hk
 refine ⟨by rw [List.length_set]; exact h.len, ?_, ?_, ?_, h.zlt⟩
 ·intro i o' hi
  by_cases hik : i = k
  ·subst hik
   rw [List.getElem?_set_self hlt] at hi
   simp only [Option.some.injEq] at hi
   subst hi
   exact ⟨x, h1, trivial⟩
  ·rw [List.getElem?_set_ne (fun hh => hik hh.symm)] at hi
   exact h.obj i o' hi
 ·intro i hi
  by_cases hik : i = k
  ·subst hik
   rw [List.getElem?_set_self hlt] at hi
   simp at hi
  ·rw [List.getElem?_set_ne (fun hh => hik hh.symm)] at hi
   exact h.hole i hi
 ·intro i j o1 o2 b hi hj hl hl2 hb hb2
  have : i ≠ k := fun hh => by subst hh; rw [List.getElem?_set_self hlt] at hi; simp only [Option.some.injEq] at hi; subst hi; exact hl
  have : j ≠ k := fun hh => by subst hh; rw [List.getElem?_set_self hlt] at hj; simp only [Option.some.injEq] at hj; subst hj; exact hl2
  rw [List.getElem?_set_ne (by omega)] at hi hj
  exact h.inj i j o1 o2 b hi hj hl hl2 hb hb2
theorem stp_put {Z : Nat → Prop} {lb : Lb} {w : World} {b k : Nat} {c c' : Array Value} {ty : TypeId} {fr : Nat × Nat} (hz : ¬ Z b) (hk : lb[k]? = some (some (some b)))
  (h : w.heap[b]? = some (.cells c ty fr)) (hs : c'.size = c.size) : Stp Z lb w Z lb (wput w b c') where
 os := rfl
 tape := rfl
 output := ⟨rfl, fun _ => Nat.le_refl _⟩
 size := by rw [put_size]; exact Nat.le_refl _
 keep := fun x hx => put_heap_other (fun hh => hz (hh ▸ hx))
 z1 := fun _ h => h
 z2 := fun _ h _ => .inl h
 bs := fun x _ => by
  by_cases hxb : x = b
  ·subst hxb; rw [bsize_of (put_heap h), bsize_of h, hs]
  ·simp [bsize, put_heap_other hxb]
 hp := fun x _ hn => put_heap_other (fun hh => hn k (hh ▸ hk))
 le := fun _ _ h => h
 fresh := fun i _ h => .inl ⟨i, h⟩
 len := rfl
theorem Own.put {Z : Nat → Prop} {lb : Lb} {L : List (Option Ob)} {w : World} (h : Own Z lb L w) {k b : Nat} {o o' : Ob} (hk : L[k]? = some (some o)) (hl : o.live) (hb : lb[k]? = some (some (some b)))
  {c c' : Array Value} {ty : TypeId} {fr : Nat × Nat} (hh : w.heap[b]? = some (.cells c ty fr)) (hs : c'.size = c.size)
  (hob : Stp Z lb w Z lb (wput w b c') → ObAt Z lb (wput w b c') o' (some b)) : Stp Z lb w Z lb (wput w b c') ∧ Own Z lb (L.set k (some o')) (wput w b c') := by
 obtain ⟨x, h1, h2⟩ := h.obj k o hk
 rw [hb] at h1
 simp only [Option.some.injEq] at h1
 subst h1
 obtain ⟨g1, g2⟩ := h2.block hl
 have st : Stp Z lb w Z lb (wput w b c') := stp_put g1 hb hh hs
 refine ⟨st, h.upd st ?_ hb (hob st) ?_ (fun i _ hi => h.hole i hi) fun x hx => by rw [put_size]; exact h.zlt.lt x hx⟩
 ·rcases Nat.lt_or_ge k L.length with h' | h'
  ·exact h'
  ·simp [List.getElem?_eq_none h'] at hk
 ·intro i o1 b1 hik hi hl1 hb1
  have hne : b1 ≠ b := fun hh => by subst hh; exact hik (h.inj i k o1 o b1 hi hk hl1 hl hb1 hb)
  obtain ⟨x, h3, h4⟩ := h.obj i o1 hi
  rw [hb1] at h3
  simp only [Option.some.injEq] at h3
  subst h3
  exact ⟨put_heap_other hne, (h4.block hl1).1, fun hh => hne (by simpa using hh.symm)⟩
theorem alloc_heap_old {w : World} {o : Obj} {b : Nat} (h : b < w.heap.size) : (w.alloc o).heap[b]? = w.heap[b]? := by
 show (w.heap.push o)[b]? = _
 rw [Array.getElem?_push, if_neg (by omega)]
theorem alloc_heap_new {w : World} {o : Obj} : (w.alloc o).heap[w.heap.size]? = some o := by
 show (w.heap.push o)[w.heap.size]? = _
 simp
theorem Own.new {Z : Nat → Prop} {lb : Lb} {L : List (Option Ob)} {w : World} (h : Own Z lb L w) {r : Nat} (hr : L[r]? = some none) {ob : Obj} {o' : Ob}
  (hob : ∀ lb', Stp Z lb w Z lb' (w.alloc ob) → ¬ Z w.heap.size → ObAt Z lb' (w.alloc ob) o' (some w.heap.size)) :
  ∃ lb', Stp Z lb w Z lb' (w.alloc ob) ∧ Own Z lb' (L.set r (some o')) (w.alloc ob) ∧ lb'[r]? = some (some (some w.heap.size)) := by
 have hlt : r < lb.length := by
  rw [h.len]
  rcases Nat.lt_or_ge r L.length with h' | h'
  ·exact h'
  ·simp [List.getElem?_eq_none h'] at hr
 have hx : (lb.set r (some (some w.heap.size)))[r]? = some (some (some w.heap.size)) := List.getElem?_set_self hlt
 have hole := h.hole r hr
 have st : Stp Z lb w Z (lb.set r (some (some w.heap.size))) (w.alloc ob) := {
  os := rfl, tape := rfl, output := ⟨rfl, fun _ => Nat.le_refl _⟩
  size := by simp
  keep := fun x hx => alloc_heap_old (h.zlt.lt x hx)
  z1 := fun _ h => h
  z2 := fun _ h _ => .inl h
  bs := fun x hx => by simp [bsize, alloc_heap_old hx]
  hp := fun x hx _ => alloc_heap_old hx
  le := fun i x hi => by
   by_cases hir : i = r
   ·subst hir; rw [hole] at hi; simp at hi
   ·rw [List.getElem?_set_ne (fun hh => hir hh.symm)]; exact hi
  fresh := fun i b hi => by
   by_cases hir : i = r
   ·subst hir; rw [hx] at hi; simp at hi; exact .inr ⟨by omega, by simp; omega⟩
   ·rw [List.getElem?_set_ne (fun hh => hir hh.symm)] at hi; exact .inl ⟨i, hi⟩
  len := by simp }
 have hz : ¬ Z w.heap.size := fun hh => absurd (h.zlt.lt _ hh) (by omega)
 refine ⟨_, st, h.upd st (by rw [← h.len]; exact hlt) hx (hob _ st hz) ?_ ?_ fun x hx => by have := h.zlt.lt x hx; simp; omega, hx⟩
 ·intro i o1 b1 hik hi hl1 hb1
  obtain ⟨x, h3, h4⟩ := h.obj i o1 hi
  rw [hb1] at h3
  simp only [Option.some.injEq] at h3
  subst h3
  obtain ⟨g1, g2⟩ := h4.block hl1
  exact ⟨alloc_heap_old g2, g1, fun hh => by simp at hh; omega⟩
 ·intro i hik hi
  rw [List.getElem?_set_ne (fun hh => hik hh.symm)]
  exact h.hole i hi
theorem stp_heap {Z : Nat → Prop} {lb : Lb} {w w' : World} (h : w'.heap = w.heap) (ho : w'.os = w.os) (ht : w'.tape = w.tape) (hu : OutD w w') : Stp Z lb w Z lb w' where
 os := ho
 tape := ht
 output := hu
 size := by rw [h]; exact Nat.le_refl _
 keep := fun x _ => by rw [h]
 z1 := fun _ h => h
 z2 := fun _ h _ => .inl h
 bs := fun x _ => by simp [bsize, h]
 hp := fun x _ _ => by rw [h]
 le := fun _ _ h => h
 fresh := fun i _ h => .inl ⟨i, h⟩
 len := rfl
theorem Own.heap {Z : Nat → Prop} {lb : Lb} {L : List (Option Ob)} {w w' : World} (o : Own Z lb L w) (h : w'.heap = w.heap) (ho : w'.os = w.os) (ht : w'.tape = w.tape) (hu : OutD w w') : Own Z lb L w' :=
 ⟨o.len, fun i ob hi => by
  obtain ⟨x, h1, h2⟩ := o.obj i ob hi
  exact ⟨x, h1, h2.mono (stp_heap h ho ht hu) fun b hl hb => ⟨by rw [h], by subst hb; exact (h2.block hl).1⟩⟩, o.hole, o.inj, ⟨fun b hb => by rw [h]; exact o.zlt.lt b hb, Glob.mono (fun _ h => h) (fun _ _ => by rw [h]) o.zlt.gl⟩⟩
def loadFrom (i : TyI) (cs : List AV) (off : Nat) : Option AV := match i.k.isAgg with
 | true => match takeN i.size (cs.drop off) with
  | some l => some (mkAgg l)
  | none => none
 | false => nth cs off
theorem run_loadFrom {P : Program} {T : TypeId} {i : TyI} {d : TypeDesc} {inf : TypeInfo} {z : Value} (F : TyFacts P T i d inf z) {Z : Nat → Prop} {lb : Lb} {w : World} {b o off : Nat} {cs : List AV} {vs : List Value} {x : AV}
  (h : AReps Z lb w cs vs) (h1 : AllOne vs) (hat : At w b o vs) (hx : loadFrom i cs off = some x) : ∃ u, (loadVar T ⟨b, o + off, none⟩).run P w = .ok u w ∧ ARep Z lb w x u := by
 unfold loadFrom at hx
 unfold loadVar
 simp only [Sem.run_bind, F.run_agg, Result.andThen_ok]
 split at hx
 ·rename_i ha
  split at hx
  ·rename_i l hl
   obtain ⟨rfl, hle⟩ := takeN_some _ _ _ hl
   simp only [Option.some.injEq] at hx
   subst hx
   have hr := (h.drop off).take i.size
   have hlen : ((vs.drop off).take i.size).length = i.size := by
    have := h.length
    simp at hle ⊢; omega
   have hload := run_loadCells_list (P := P) w ⟨b, o + off, none⟩ ((vs.drop off).take i.size) (fun j v hj => by
    rw [addr_add, Nat.add_assoc]
    refine hat (off + j) v ?_
    have hj' : j < ((vs.drop off).take i.size).length := by
     rcases Nat.lt_or_ge j ((vs.drop off).take i.size).length with h' | h'
     ·exact h'
     ·simp [List.getElem?_eq_none h'] at hj
    rw [List.getElem?_take_of_lt (by omega), List.getElem?_drop] at hj
    exact hj)
   rw [hlen] at hload
   rw [if_pos ha]
   simp only [Sem.run_bind, F.run_size, Result.andThen_ok, hload, Sem.run_pure]
   exact ⟨_, rfl, mkAgg_rep hr ((h1.drop off).take _)⟩
  ·simp at hx
 ·rename_i ha
  rw [nth_eq] at hx
  obtain ⟨u, hu, hr⟩ := h.get off x hx
  rw [if_neg (by simp [ha])]
  simp only [run_load, hat off u hu]
  exact ⟨u, rfl, hr⟩
def withTy (E : Env) (T : TypeId) (k : TyI → Prop) : Prop := match tfind E.tys T with
 | some i => k i
 | none => False
def withV (x : Option AV) (k : AV → Prop) : Prop := match x with
 | some x => k x
 | none => False
def withC (x : Option (List AV)) (k : List AV → Prop) : Prop := match x with
 | some x => k x
 | none => False
def withO (x : Option (Option Ob)) (k : Ob → Prop) : Prop := match x with
 | some (some x) => k x
 | _ => False
theorem withTy_some {E : Env} {T : TypeId} {k : TyI → Prop} (h : withTy E T k) : ∃ i d inf z, k i ∧ TyFacts E.P T i d inf z := by
 unfold withTy at h
 split at h
 ·rename_i i hi
  obtain ⟨d, inf, z, F⟩ := tyOf_some (E.ok T i hi)
  exact ⟨i, d, inf, z, h, F⟩
 ·exact h.elim
theorem withV_some {x : Option AV} {k : AV → Prop} (h : withV x k) : ∃ y, x = some y ∧ k y := by
 unfold withV at h
 split at h
 ·exact ⟨_, rfl, h⟩
 ·exact h.elim
theorem withC_some {x : Option (List AV)} {k : List AV → Prop} (h : withC x k) : ∃ y, x = some y ∧ k y := by
 unfold withC at h
 split at h
 ·exact ⟨_, rfl, h⟩
 ·exact h.elim
theorem withO_some {x : Option (Option Ob)} {k : Ob → Prop} (h : withO x k) : ∃ y, x = some (some y) ∧ k y := by
 unfold withO at h
 split at h
 ·exact ⟨_, rfl, h⟩
 ·exact h.elim
abbrev Vop := (Operand → Option AV) → (Nat → Option (Option Ob)) → (Eff → Prop) → Prop
def touch (e : Eff) : List Nat := e.rd ++ e.wr.map (·.1)
def Sound (E : Env) (o : Oper) (V : Vop) : Prop := ∀ ρ ℓ K, V ρ ℓ K → ∃ e, K e ∧ ∀ s : ASt, okDst s.n o.dst = true → (∀ x, x ∈ o.op.operands → ev s.t x = ρ x) → (∀ k, k ∈ touch e → s.L[k]? = ℓ k) → OpAt E.P o s e
def vLoad (E : Env) (T : TypeId) (x : Operand) : Vop := fun ρ ℓ K => withTy E T fun i => withV (ρ x) fun
 | .loc k off => withO (ℓ k) fun
  | .var cs => withV (loadFrom i cs off) fun v => K ⟨some v, [k], []⟩
  | .pvar m cs => (0 < i.size ∧ off + i.size ≤ m) ∧ withV (loadFrom i cs off) fun v => K ⟨some v, [k], []⟩
  | _ => False
 | .p (.eptr cs off) => withV (loadFrom i (mapP cs) off) fun v => K ⟨some v, [], []⟩
 | .p (.rv _ (.eptr cs off)) => withV (loadFrom i (mapP cs) off) fun v => K ⟨some v, [], []⟩
 | .eloc k sz j off => withO (ℓ k) fun
  | .arr sz' es => pickE (fun e => es[j]? = some e) (fun e => (match Nat.beq sz sz' with
   | true => match pcells e with
    | some cs => withV (loadFrom i (mapP cs) off) fun v => K ⟨some v, [k], []⟩
    | none => False
   | false => False)) ⟨⟩
  | .pvar m cs => (0 < i.size ∧ j * sz + off + i.size ≤ m) ∧ withV (loadFrom i cs (j * sz + off)) fun v => K ⟨some v, [k], []⟩
  | _ => False
 | _ => False
theorem obj_pvar {Z : Nat → Prop} {lb : Lb} {L : List (Option Ob)} {w : World} (h : Own Z lb L w) {k b m : Nat} {cs : List AV} (hk : L[k]? = some (some (.pvar m cs))) (hb : lb[k]? = some (some (some b))) :
  ∃ vs arr ty fr, AReps Z lb w cs vs ∧ AllOne vs ∧ w.heap[b]? = some (.cells arr ty fr) ∧ Unfrozen fr arr.size ∧ m ≤ arr.size ∧ ∀ j u, j < m → vs[j]? = some u → arr[j]? = some u := by
 obtain ⟨x, h1, h2⟩ := h.obj k _ hk
 rw [hb] at h1
 simp only [Option.some.injEq] at h1
 subst h1
 exact h2.2.2
theorem takeN_of {α : Type} : ∀ (n : Nat) (l : List α), n ≤ l.length → takeN n l = some (l.take n)
 | 0, l, _ => by simp [takeN]
 | n + 1, [], h => absurd h (by simp)
 | n + 1, x :: xs, h => by rw [takeN, takeN_of n xs (by simpa using h)]; rfl
theorem loadFrom_take {i : TyI} {cs : List AV} {off m : Nat} {v : AV} (h1 : 0 < i.size) (h : off + i.size ≤ m) (hv : loadFrom i cs off = some v) : loadFrom i (cs.take m) off = some v := by
 unfold loadFrom at hv ⊢
 cases ha : i.k.isAgg with
 | true =>
  rw [ha] at hv
  dsimp only at hv ⊢
  split at hv
  ·rename_i l hl
   obtain ⟨rfl, hle⟩ := takeN_some _ _ _ hl
   have e : takeN i.size ((cs.take m).drop off) = some ((cs.drop off).take i.size) := by
    rw [takeN_of _ _ (by simp at hle ⊢; omega)]
    rw [List.drop_take, List.take_take, Nat.min_eq_left (by omega)]
   rw [e]; exact hv
  ·simp at hv
 | false =>
  rw [ha] at hv
  dsimp only at hv ⊢
  rw [nth_eq] at hv ⊢
  rw [List.getElem?_take_of_lt (by omega)]; exact hv
theorem at_cells {w : World} {b : Nat} {vs : List Value} {ty : TypeId} {fr : Nat × Nat} (h : w.heap[b]? = some (.cells vs.toArray ty fr)) : At w b 0 vs := by
 intro i u hu
 simp [World.cell?, h, hu]
theorem run_loadP {P : Program} {T : TypeId} {i : TyI} {d : TypeDesc} {inf : TypeInfo} {z : Value} (F : TyFacts P T i d inf z) {Z : Nat → Prop} {lb : Lb} {L : List (Option Ob)} {w : World} {k b m off : Nat} {cs : List AV} {x : AV}
  (ho : Own Z lb L w) (hk : L[k]? = some (some (.pvar m cs))) (hb : lb[k]? = some (some (some b))) (h1 : 0 < i.size) (hle : off + i.size ≤ m) (hx : loadFrom i cs off = some x) : ∃ u, (loadVar T ⟨b, off, none⟩).run P w = .ok u w ∧ ARep Z lb w x u := by
 obtain ⟨vs, arr, ty, fr, g1, g2, g3, g4, g5, g6⟩ := obj_pvar ho hk hb
 obtain ⟨u, hrun, hrep⟩ := run_loadFrom F (b := b) (o := 0) (g1.take m) (g2.take m) (fun i u hu => by
  have him : i < m := by
   rcases Nat.lt_or_ge i m with h | h
   ·exact h
   ·rw [List.getElem?_eq_none (by simp; omega)] at hu; simp at hu
  rw [List.getElem?_take_of_lt him] at hu
  simp [World.cell?, g3, g6 i u him hu]) (loadFrom_take h1 hle hx)
 rw [Nat.zero_add] at hrun
 exact ⟨u, hrun, hrep⟩
theorem obj_var {Z : Nat → Prop} {lb : Lb} {L : List (Option Ob)} {w : World} (h : Own Z lb L w) {k b : Nat} {cs : List AV} (hk : L[k]? = some (some (.var cs))) (hb : lb[k]? = some (some (some b))) :
  ∃ vs ty fr, AReps Z lb w cs vs ∧ AllOne vs ∧ w.heap[b]? = some (.cells vs.toArray ty fr) ∧ Unfrozen fr (vs.length + 1) := by
 obtain ⟨x, h1, h2⟩ := h.obj k _ hk
 rw [hb] at h1
 simp only [Option.some.injEq] at h1
 subst h1
 exact h2.2.2
theorem obj_arr {Z : Nat → Prop} {lb : Lb} {L : List (Option Ob)} {w : World} (h : Own Z lb L w) {k b sz : Nat} {es : List PV} (hk : L[k]? = some (some (.arr sz es))) (hb : lb[k]? = some (some (some b))) :
  ∃ vs arr ty fr, Reps Z w es vs ∧ 0 < sz ∧ (∀ x, x ∈ vs → Fit sz x) ∧ w.heap[b]? = some (.cells arr ty fr) ∧ Unfrozen fr arr.size ∧
   (∀ k u, vs[k]? = some u → ∀ j c, (vcells u)[j]? = some c → arr[k * sz + j]? = some c) ∧ vs.length ≤ big ∧ vs.length * sz ≤ arr.size := by
 obtain ⟨x, h1, h2⟩ := h.obj k _ hk
 rw [hb] at h1
 simp only [Option.some.injEq] at h1
 subst h1
 exact h2.2.2
theorem sLoad (E : Env) (o : Oper) (T : TypeId) (x : Operand) (ho : o.op = .load T x) : Sound E o (vLoad E T x) := by
 intro ρ ℓ K h
 obtain ⟨i, d, inf, z, h, F⟩ := withTy_some h
 obtain ⟨y, hy, h⟩ := withV_some h
 have hev : ∀ {s : ASt}, (∀ q, q ∈ o.op.operands → ev s.t q = ρ q) → ev s.t x = some y := fun hq => by rw [hq x (by simp [ho, Op.operands]), hy]
 split at h
 ·rename_i k off
  obtain ⟨ob, hob, h⟩ := withO_some h
  split at h
  ·rename_i cs
   obtain ⟨v, hv, h⟩ := withV_some h
   refine ⟨_, h, fun s hd hq ht => opAt_val hd fun Z lb a w hs => ?_⟩
   have hr := ev_rep hs (hev hq)
   have hk : s.L[k]? = some (some (.var cs)) := (ht k (by simp [touch])).trans hob
   simp only [ARep] at hr
   obtain ⟨b, hb, hu⟩ := hr
   obtain ⟨vs, ty, fr, g1, g2, g3, g4⟩ := obj_var hs.own hk hb
   obtain ⟨u, hrun, hrep⟩ := run_loadFrom F (o := 0) g1 g2 (at_cells g3) hv
   refine ⟨u, ?_, hrep⟩
   simp only [execOp, ho, hu, Instr.loadAt, Instr.sureAddr, Sem.run_bind, Sem.run_pure, Result.andThen_ok]
   rw [Nat.zero_add] at hrun
   simp [hrun]
  ·rename_i m cs
   obtain ⟨⟨hpos, hle⟩, h⟩ := h
   obtain ⟨v, hv, h⟩ := withV_some h
   refine ⟨_, h, fun s hd hq ht => opAt_val hd fun Z lb a w hs => ?_⟩
   have hr := ev_rep hs (hev hq)
   have hk : s.L[k]? = some (some (.pvar m cs)) := (ht k (by simp [touch])).trans hob
   simp only [ARep] at hr
   obtain ⟨b, hb, hu⟩ := hr
   obtain ⟨u, hrun, hrep⟩ := run_loadP F hs.own hk hb hpos hle hv
   refine ⟨u, ?_, hrep⟩
   simp only [execOp, ho, hu, Instr.loadAt, Instr.sureAddr, Sem.run_bind, Sem.run_pure, Result.andThen_ok]
   simp [hrun]
  ·exact h.elim
 ·rename_i cs off
  obtain ⟨v, hv, h⟩ := withV_some h
  refine ⟨_, h, fun s hd hq ht => opAt_val hd fun Z lb a w hs => ?_⟩
  have hr := ev_rep hs (hev hq)
  simp only [ARep, Rep] at hr
  obtain ⟨vs, b, o', g1, g2, hu, g4, g5⟩ := hr
  obtain ⟨u, hrun, hrep⟩ := run_loadFrom F (lb := lb) (by rw [mapP_eq, areps_p]; exact g1) g2 g5 hv
  refine ⟨u, ?_, hrep⟩
  simp only [execOp, ho, hu, Instr.loadAt, Instr.sureAddr, Sem.run_bind, Sem.run_pure, Result.andThen_ok]
  simp [hrun]
 ·rename_i q cs off
  obtain ⟨v, hv, h⟩ := withV_some h
  refine ⟨_, h, fun s hd hq ht => opAt_val hd fun Z lb a w hs => ?_⟩
  have hr := ev_rep hs (hev hq)
  simp only [ARep, Rep] at hr
  obtain ⟨_, _, ⟨vs, b, o', g1, g2, hu, g4, g5⟩, _⟩ := hr
  obtain ⟨u, hrun, hrep⟩ := run_loadFrom F (lb := lb) (by rw [mapP_eq, areps_p]; exact g1) g2 g5 hv
  refine ⟨u, ?_, hrep⟩
  simp only [execOp, ho, hu, Instr.loadAt, Instr.sureAddr, Sem.run_bind, Sem.run_pure, Result.andThen_ok]
  simp [hrun]
 ·rename_i k sz j off
  obtain ⟨ob, hob, h⟩ := withO_some h
  split at h
  ·rename_i sz' es
   obtain ⟨e, he, h⟩ := h
   split at h
   ·rename_i hsz
    have hsz := Nat.eq_of_beq_eq_true hsz
    subst hsz
    split at h
    ·rename_i cs hcs
     obtain ⟨v, hv, h⟩ := withV_some h
     refine ⟨_, h, fun s hd hq ht => opAt_val hd fun Z lb a w hs => ?_⟩
     have hr := ev_rep hs (hev hq)
     have hk : s.L[k]? = some (some (.arr sz es)) := (ht k (by simp [touch])).trans hob
     simp only [ARep] at hr
     obtain ⟨b, hb, hu⟩ := hr
     obtain ⟨vs, arr, ty, fr, g1, g2, g3, g4, g5, g6, g7, g8⟩ := obj_arr hs.own hk hb
     obtain ⟨eu, heu, her⟩ := g1.get j e he
     obtain ⟨c1, c2⟩ := pcells_rep her hcs
     obtain ⟨u, hrun, hrep⟩ := run_loadFrom F (lb := lb) (b := b) (o := j * sz) (vs := vcells eu) (by rw [mapP_eq, areps_p]; exact c1) c2 (fun m c hm => by
      simp [World.cell?, g4, g6 j eu heu m c hm]) hv
     refine ⟨u, ?_, hrep⟩
     simp only [execOp, ho, hu, Instr.loadAt, Instr.sureAddr, Sem.run_bind, Sem.run_pure, Result.andThen_ok]
     simp [hrun]
    ·exact h.elim
   ·exact h.elim
  ·rename_i m cs
   obtain ⟨⟨hpos, hle⟩, h⟩ := h
   obtain ⟨v, hv, h⟩ := withV_some h
   refine ⟨_, h, fun s hd hq ht => opAt_val hd fun Z lb a w hs => ?_⟩
   have hr := ev_rep hs (hev hq)
   have hk : s.L[k]? = some (some (.pvar m cs)) := (ht k (by simp [touch])).trans hob
   simp only [ARep] at hr
   obtain ⟨b, hb, hu⟩ := hr
   obtain ⟨u, hrun, hrep⟩ := run_loadP F hs.own hk hb hpos hle hv
   refine ⟨u, ?_, hrep⟩
   simp only [execOp, ho, hu, Instr.loadAt, Instr.sureAddr, Sem.run_bind, Sem.run_pure, Result.andThen_ok]
   simp [hrun]
  ·exact h.elim
 ·exact h.elim
end Go.Ab
namespace Go.Ab
variable [Glob]
theorem find_ev {o : Oper} {s : ASt} {ρ : Operand → Option AV} (hq : ∀ x, x ∈ o.op.operands → ev s.t x = ρ x) {x : Operand} {y : AV} (hx : x ∈ o.op.operands) (hy : ρ x = some y) : ev s.t x = some y := by
 rw [hq x hx, hy]
def vMove (x : Operand) : Vop := fun ρ _ K => withV (ρ x) fun y => K ⟨some y, [], []⟩
theorem sMove (E : Env) (o : Oper) (x : Operand) (ho : o.op = .move x ∨ o.op = .assign x) : Sound E o (vMove x) := by
 intro ρ ℓ K h
 obtain ⟨y, hy, h⟩ := withV_some h
 refine ⟨_, h, fun s hd hq ht => opAt_val hd fun Z lb a w hs => ⟨a.eval x, ?_, ev_rep hs (find_ev hq (by rcases ho with ho | ho <;> simp [ho, Op.operands]) hy)⟩⟩
 rcases ho with ho | ho <;> simp [execOp, ho]
def vPick (c x y : Operand) : Vop := fun ρ _ K => withV (ρ c) fun
 | .p (.v (.bool b)) => fork b (withV (ρ x) fun z => K ⟨some z, [], []⟩) (withV (ρ y) fun z => K ⟨some z, [], []⟩)
 | _ => False
theorem sPick (E : Env) (o : Oper) (c x y : Operand) (ho : o.op = .pick c x y) : Sound E o (vPick c x y) := by
 intro ρ ℓ K h
 obtain ⟨q, hc, h⟩ := withV_some h
 split at h
 ·rename_i b
  have hcm : c ∈ o.op.operands := by simp [ho, Op.operands]
  have hev : ∀ {Z : Nat → Prop} {lb : Lb} {s : ASt} {a : Act} {w : World}, St Z lb s a w → (∀ q, q ∈ o.op.operands → ev s.t q = ρ q) → a.eval c = .bool b := by
   intro Z lb s a w hs hq
   have := ev_rep hs (find_ev hq hcm hc)
   simp only [ARep, Rep] at this
   exact this.1
  cases b
  ·obtain ⟨z, hz, h⟩ := withV_some h.run
   refine ⟨_, h, fun s hd hq ht => opAt_val hd fun Z lb a w hs => ⟨a.eval y, ?_, ev_rep hs (find_ev hq (by simp [ho, Op.operands]) hz)⟩⟩
   simp [execOp, ho, hev hs hq, asBool]
  ·obtain ⟨z, hz, h⟩ := withV_some h.run
   refine ⟨_, h, fun s hd hq ht => opAt_val hd fun Z lb a w hs => ⟨a.eval x, ?_, ev_rep hs (find_ev hq (by simp [ho, Op.operands]) hz)⟩⟩
   simp [execOp, ho, hev hs hq, asBool]
 ·exact h.elim
def mapV : List Value → List AV
 | [] => []
 | x :: xs => .p (.v x) :: mapV xs
def allOneB : List Value → Bool
 | [] => true
 | x :: xs => match oneB x with
  | true => allOneB xs
  | false => false
theorem allOneB_ok : ∀ {l : List Value}, allOneB l = true → AllOne l
 | [], _ => fun x hx => by simp at hx
 | y :: l, h => by
  simp only [allOneB] at h
  split at h
  ·rename_i h1
   intro x hx
   rcases List.mem_cons.1 hx with rfl | hx
   ·exact h1
   ·exact allOneB_ok h x hx
  ·simp at h
theorem mapV_rep {Z : Nat → Prop} {lb : Lb} {w : World} : ∀ {l : List Value}, AllOne l → AReps Z lb w (mapV l) l
 | [], _ => rfl
 | x :: l, h => by
  simp only [mapV, AReps]
  exact ⟨x, l, rfl, by simp only [ARep, Rep]; exact ⟨trivial, h x List.mem_cons_self⟩, mapV_rep fun y hy => h y (List.mem_cons_of_mem _ hy)⟩
def isHole : Option (Option Ob) → Bool
 | some none => true
 | _ => false
theorem isHole_eq {x : Option (Option Ob)} (h : isHole x = true) : x = some none := by
 unfold isHole at h
 split at h
 ·rfl
 ·simp at h
def onB (b : Bool) (A : Prop) : Prop := match b with
 | true => A
 | false => False
theorem onB_some {b : Bool} {A : Prop} (h : onB b A) : b = true ∧ A := by
 cases b
 ·exact h.elim
 ·exact ⟨rfl, h⟩
def vAlloc (E : Env) (rank : Nat) (T : TypeId) : Vop := fun _ ℓ K => onB (isHole (ℓ rank)) <| withTy E T fun i => match Nat.beq T Glob.bld with
 | true => (match i.zero with
  | [.pointer none, .slice none 0 0] => K ⟨some (.loc rank 0), [], [(rank, some (.bld T (.p (.v (.slice none 0 0)))))]⟩
  | _ => False)
 | false => onB (allOneB i.zero) <| forceA (mapV i.zero) fun cs => K ⟨some (.loc rank 0), [], [(rank, some (.var cs))]⟩
theorem obAt_new {Z : Nat → Prop} {lb lb' : Lb} {w : World} {cs : List AV} {vs : List Value} {ty : TypeId} (hz : ¬ Z w.heap.size) (st : Stp Z lb w Z lb' (w.alloc (.cells vs.toArray ty))) (h : AReps Z lb w cs vs) (h1 : AllOne vs) :
  ObAt Z lb' (w.alloc (.cells vs.toArray ty)) (.var cs) (some w.heap.size) :=
 ⟨hz, by simp, vs, ty, (0, 0), st.areps h, h1, alloc_heap_new, ⟨Nat.le_refl _, fun o _ => by simp⟩⟩
theorem sAlloc (E : Env) (o : Oper) (rank : Nat) (T : TypeId) (ho : o.op = .alloc T) : Sound E o (vAlloc E rank T) := by
 intro ρ ℓ K h
 obtain ⟨h0, h⟩ := onB_some h
 obtain ⟨i, d, inf, z, h, F⟩ := withTy_some h
 split at h
 ·split at h
  ·rename_i hzz
   refine ⟨_, h, fun s hd hq ht => opAt_chg hd fun Z lb a w hs => ?_⟩
   have hr : s.L[rank]? = some none := (ht rank (by simp [touch])).trans (isHole_eq h0)
   obtain ⟨lb', st, own, hb⟩ := hs.own.new hr (ob := .cells #[.pointer none, .slice none 0 0] T) (o' := .bld T (.p (.v (.slice none 0 0)))) (fun lb' st hz =>
    ⟨hz, by simp, .pointer none, .slice none 0 0, alloc_heap_new, .inl rfl, by simp [ARep, Rep, oneB], fun a n cap e => by simp at e⟩)
   refine ⟨.pointer (some ⟨w.heap.size, 0, none⟩), _, Z, lb', ?_, st, by simpa [setAll, setL_eq] using own, by simp only [ARep]; exact ⟨_, hb, rfl⟩⟩
   have hz : z.cells = #[.pointer none, .slice none 0 0] := by
    have := F.zc
    rw [hzz, vcells] at this
    exact Array.ext' this.symm
   simp only [execOp, ho, Instr.alloc, Sem.run_bind, F.run_zero, Result.andThen_ok, newVar, newRow, run_newObj, Sem.run_pure, World.alloc_eq, hz]
  ·exact h.elim
 obtain ⟨h1, h⟩ := onB_some h
 rw [forceA_eq] at h
 refine ⟨_, h, fun s hd hq ht => opAt_chg hd fun Z lb a w hs => ?_⟩
 have hr : s.L[rank]? = some none := (ht rank (by simp [touch])).trans (isHole_eq h0)
 have h1 := allOneB_ok h1
 obtain ⟨lb', st, own, hb⟩ := hs.own.new hr (ob := .cells i.zero.toArray T) (o' := .var (mapV i.zero)) (fun lb' st hz => obAt_new hz st (mapV_rep h1) h1)
 refine ⟨.pointer (some ⟨w.heap.size, 0, none⟩), _, Z, lb', ?_, st, by simpa [setAll, setL_eq] using own, by simp only [ARep]; exact ⟨_, hb, rfl⟩⟩
 have hz : z.cells = i.zero.toArray := by rw [F.zc, vcells]
 simp only [execOp, ho, Instr.alloc, Sem.run_bind, F.run_zero, Result.andThen_ok, newVar, newRow, run_newObj, Sem.run_pure, World.alloc_eq, hz]
def vBox (rank : Nat) (x : Operand) : Vop := fun ρ ℓ K => onB (isHole (ℓ rank)) <| withV (ρ x) fun y => withC (acells y) fun cs => forceA cs fun cs => K ⟨some (.loc rank 0), [], [(rank, some (.var cs))]⟩
theorem sBox (E : Env) (o : Oper) (rank : Nat) (T : TypeId) (x : Operand) (ho : o.op = .box T x) : Sound E o (vBox rank x) := by
 intro ρ ℓ K h
 obtain ⟨h0, h⟩ := onB_some h
 obtain ⟨y, hy, h⟩ := withV_some h
 obtain ⟨cs, hcs, h⟩ := withC_some h
 rw [forceA_eq] at h
 refine ⟨_, h, fun s hd hq ht => opAt_chg hd fun Z lb a w hs => ?_⟩
 have hr : s.L[rank]? = some none := (ht rank (by simp [touch])).trans (isHole_eq h0)
 obtain ⟨g1, g2⟩ := acells_rep (ev_rep hs (find_ev hq (by simp [ho, Op.operands]) hy)) hcs
 obtain ⟨lb', st, own, hb⟩ := hs.own.new hr (ob := .cells (vcells (a.eval x)).toArray T) (o' := .var cs) (fun lb' st hz => obAt_new hz st g1 g2)
 refine ⟨.pointer (some ⟨w.heap.size, 0, none⟩), _, Z, lb', ?_, st, by simpa [setAll, setL_eq] using own, by simp only [ARep]; exact ⟨_, hb, rfl⟩⟩
 simp only [execOp, ho, Instr.box, newVar, newRow, Sem.run_bind, Result.andThen_ok, run_newObj, Sem.run_pure, World.alloc_eq, vcells, Array.toArray_toList]
def wholeElem (off len sz : Nat) (v : AV) : Option PV := match Nat.beq off 0, Nat.beq len sz, v with
 | true, true, .p e => some e
 | _, _, _ => none
theorem wholeElem_some {off len sz : Nat} {v : AV} {e : PV} (h : wholeElem off len sz v = some e) : off = 0 ∧ len = sz ∧ v = .p e := by
 unfold wholeElem at h
 split at h
 ·rename_i h1 h2
  simp only [Option.some.injEq] at h
  subst h
  exact ⟨Nat.eq_of_beq_eq_true h1, Nat.eq_of_beq_eq_true h2, rfl⟩
 ·simp at h
def vStore (E : Env) (T : TypeId) (x y : Operand) : Vop := fun ρ ℓ K => withTy E T fun i => withV (ρ y) fun v => withC (acells v) fun xs => onB (Nat.beq xs.length i.size) <| withV (ρ x) fun
 | .loc k off => withO (ℓ k) fun
  | .var cs => onB (Nat.ble (off + xs.length) cs.length) <| forceA (lsp cs off xs) fun cs' => K ⟨none, [], [(k, some (.var cs'))]⟩
  | .pvar m cs => (off + xs.length ≤ m) ∧ onB (Nat.ble (off + xs.length) cs.length) (forceA (lsp cs off xs) fun cs' => K ⟨none, [], [(k, some (.pvar m cs'))]⟩)
  | _ => False
 | .eloc k sz j off => withO (ℓ k) fun
  | .arr sz' es => Nat.beq sz sz' = true ∧ j < es.length ∧ (match wholeElem off xs.length sz v with
   | some e => K ⟨none, [], [(k, some (.arr sz (es.set j e)))]⟩
   | none => pickE (fun e => es[j]? = some e) (fun e => (match pcells e, unp xs with
    | some cs, some ps => onB (Nat.ble (off + xs.length) cs.length) <| onB (Nat.blt 1 sz) <| forceP (lsp cs off ps) fun cs' => K ⟨none, [], [(k, some (.arr sz (es.set j (.agg cs'))))]⟩
    | _, _ => False)) ⟨⟩)
  | .pvar m cs => (j * sz + off + xs.length ≤ m) ∧ onB (Nat.ble (j * sz + off + xs.length) cs.length) (forceA (lsp cs (j * sz + off) xs) fun cs' => K ⟨none, [], [(k, some (.pvar m cs'))]⟩)
  | _ => False
 | _ => False
theorem Reps.lsp {Z : Nat → Prop} {w : World} : ∀ {ys : List PV} {us : List Value} {xs : List PV} {vs : List Value} (o : Nat), Reps Z w xs vs → Reps Z w ys us →
  Reps Z w (Ab.lsp xs o ys) (Ab.lsp vs o us)
 | [], us, xs, vs, o, h, k => by simp only [Reps] at k; subst k; exact h
 | y :: ys, us, xs, vs, o, h, k => by
  simp only [Reps] at k
  obtain ⟨u, us', rfl, h2, h3⟩ := k
  simp only [Ab.lsp]
  exact Reps.lsp (o + 1) (Reps.set h2 h o) h3
theorem run_storeVar {P : Program} {T : TypeId} {i : TyI} {d : TypeDesc} {inf : TypeInfo} {z : Value} (F : TyFacts P T i d inf z) {w : World} {b o : Nat} {c : Array Value} {ty : TypeId} {fr : Nat × Nat} {v : Value}
  (hlen : (vcells v).length = i.size) (h : w.heap[b]? = some (.cells c ty fr)) (hle : o + (vcells v).length ≤ c.size) (hf : Unfrozen fr c.size) (h1 : AllOne (vcells v)) :
  (storeVar T ⟨b, o, none⟩ v).run P w = .ok () (wput w b (arrSplice c o (vcells v))) := by
 unfold storeVar
 have : v.cells.size = i.size := by rw [← hlen, vcells]; simp
 simp only [Sem.run_bind, F.run_size, Result.andThen_ok, this, ne_eq, not_true_eq_false, if_false]
 exact run_storeCells_ab P b o ty fr (vcells v) 0 c w h (by omega) hf h1
theorem put_pvar {Z : Nat → Prop} {lb : Lb} {L : List (Option Ob)} {w : World} {k b m off : Nat} {cs xs : List AV} {us : List Value} {P : Program} {T : TypeId} {i : TyI} {d : TypeDesc} {inf : TypeInfo} {z : Value} (F : TyFacts P T i d inf z) {v : Value} (hv : vcells v = us)
  (ho : Own Z lb L w) (hk : L[k]? = some (some (.pvar m cs))) (hb : lb[k]? = some (some (some b))) (c1 : AReps Z lb w xs us) (c2 : AllOne us) (hlen : xs.length = i.size) (hm : off + xs.length ≤ m) (hle : off + xs.length ≤ cs.length) :
  ∃ w', (storeVar T ⟨b, off, none⟩ v).run P w = .ok () w' ∧ Stp Z lb w Z lb w' ∧ Own Z lb (L.set k (some (.pvar m (lsp cs off xs)))) w' := by
 subst hv
 obtain ⟨vs, arr, ty, fr, g1, g2, g3, g4, g5, g6⟩ := obj_pvar ho hk hb
 have e1 := c1.length
 have e2 := g1.length
 have hrun := run_storeVar (o := off) F (by omega) g3 (by omega) g4 c2
 obtain ⟨st, own⟩ := ho.put hk trivial hb g3 (c' := arrSplice arr off (vcells v)) (arrSplice_size _ _ _) (o' := .pvar m (lsp cs off xs)) (fun st => by
  obtain ⟨x0, k1, k2⟩ := ho.obj k _ hk
  rw [hb] at k1
  simp only [Option.some.injEq] at k1
  subst k1
  refine ⟨k2.1, by rw [put_size]; exact k2.2.1, lsp vs off (vcells v), _, ty, fr, st.areps (AReps.lsp off g1 c1), AllOne.lsp off g2 c2, put_heap g3, by rw [arrSplice_size]; exact g4, by rw [arrSplice_size]; exact g5, fun j u hj hu => ?_⟩
  have hl := congrArg (fun l => l[j]?) (arrSplice_list (vcells v) vs off)
  simp only [List.getElem?_toArray] at hl
  rw [← hl, arrSplice_get _ _ _ _ (by simp; omega)] at hu
  rw [arrSplice_get _ _ _ _ (by omega)]
  split at hu
  ·rename_i h; rw [if_pos h]; exact hu
  ·rename_i h; rw [if_neg h]; exact g6 j u hj (by simpa using hu))
 exact ⟨_, hrun, st, own⟩
def StoreRuns (P : Program) (o : Oper) (s : ASt) (e : Eff) : Prop := ∀ Z lb a w, St Z lb s a w → ∃ w' Z' lb', (execOp a.eval o).run P w = .ok .skip w' ∧ Stp Z lb w Z' lb' w' ∧ Own Z' lb' (setAll s.L e.wr) w'
theorem sStoreK (E : Env) (o : Oper) (T : TypeId) (x y : Operand) (ho : o.op = .store T x y) {ρ : Operand → Option AV} {ℓ : Nat → Option (Option Ob)} {K : Eff → Prop} (h : vStore E T x y ρ ℓ K) :
  ∃ e, K e ∧ e.val = none ∧ ∀ s : ASt, (∀ x, x ∈ o.op.operands → ev s.t x = ρ x) → (∀ k, k ∈ touch e → s.L[k]? = ℓ k) → StoreRuns E.P o s e := by
 obtain ⟨i, d, inf, z, h, F⟩ := withTy_some h
 obtain ⟨v, hv, h⟩ := withV_some h
 obtain ⟨xs, hxs, h⟩ := withC_some h
 obtain ⟨hlen, h⟩ := onB_some h
 have hlen := Nat.eq_of_beq_eq_true hlen
 obtain ⟨p, hp, h⟩ := withV_some h
 have hxm : x ∈ o.op.operands := by simp [ho, Op.operands]
 have hym : y ∈ o.op.operands := by simp [ho, Op.operands]
 have hexec : ∀ {a : Act} {w w' : World} {ad : Addr}, a.eval x = .pointer (some ad) → (storeVar T ad (a.eval y)).run E.P w = .ok () w' → (execOp a.eval o).run E.P w = .ok .skip w' := by
  intro a w w' ad h1 h2
  simp only [execOp, ho, h1, Instr.storeAt, Instr.sureAddr, Sem.run_bind, Sem.run_pure, Result.andThen_ok, h2]
 split at h
 ·rename_i k off
  obtain ⟨ob, hob, h⟩ := withO_some h
  split at h
  ·rename_i cs
   obtain ⟨hle, h⟩ := onB_some h
   have hle := Nat.le_of_ble_eq_true hle
   rw [forceA_eq] at h
   refine ⟨_, h, rfl, fun s hq ht Z lb a w hs => ?_⟩
   have hr := ev_rep hs (find_ev hq hxm hp)
   have hk : s.L[k]? = some (some (.var cs)) := (ht k (by simp [touch])).trans hob
   simp only [ARep] at hr
   obtain ⟨b, hb, hu⟩ := hr
   obtain ⟨vs, ty, fr, g1, g2, g3, g4⟩ := obj_var hs.own hk hb
   obtain ⟨c1, c2⟩ := acells_rep (ev_rep hs (find_ev hq hym hv)) hxs
   have e1 := c1.length
   have e2 := g1.length
   have hrun := run_storeVar (o := off) F (by omega) g3 (by simp; omega) (by simpa using g4.mono (Nat.le_succ _)) c2
   obtain ⟨st, own⟩ := hs.own.put hk trivial hb g3 (c' := arrSplice vs.toArray off (vcells (a.eval y))) (arrSplice_size _ _ _) (o' := .var (lsp cs off xs)) (fun st => by
    obtain ⟨x0, k1, k2⟩ := hs.own.obj k _ hk
    rw [hb] at k1
    simp only [Option.some.injEq] at k1
    subst k1
    refine ⟨k2.1, by rw [put_size]; exact k2.2.1, lsp vs off (vcells (a.eval y)), ty, fr, st.areps (AReps.lsp off g1 c1), AllOne.lsp off g2 c2, ?_, by rw [lsp_length]; exact g4⟩
    rw [put_heap g3, arrSplice_list])
   exact ⟨_, Z, lb, hexec hu hrun, st, by simpa [setAll, setL_eq] using own⟩
  ·rename_i m cs
   obtain ⟨hm, h⟩ := h
   obtain ⟨hle, h⟩ := onB_some h
   have hle := Nat.le_of_ble_eq_true hle
   rw [forceA_eq] at h
   refine ⟨_, h, rfl, fun s hq ht Z lb a w hs => ?_⟩
   have hr := ev_rep hs (find_ev hq hxm hp)
   have hk : s.L[k]? = some (some (.pvar m cs)) := (ht k (by simp [touch])).trans hob
   simp only [ARep] at hr
   obtain ⟨b, hb, hu⟩ := hr
   obtain ⟨c1, c2⟩ := acells_rep (ev_rep hs (find_ev hq hym hv)) hxs
   obtain ⟨w', hrun, st, own⟩ := put_pvar F rfl hs.own hk hb c1 c2 hlen hm hle
   exact ⟨_, Z, lb, hexec hu hrun, st, by simpa [setAll, setL_eq] using own⟩
  ·exact h.elim
 ·rename_i k sz j off
  obtain ⟨ob, hob, h⟩ := withO_some h
  split at h
  ·rename_i sz' es
   obtain ⟨hsz, hj, h⟩ := h
   have hsz := Nat.eq_of_beq_eq_true hsz
   subst hsz
   -- the two ways give one shape: the element e' written, its cells
   have main : ∀ (e' : PV), K ⟨none, [], [(k, some (.arr sz (es.set j e')))]⟩ →
     (∀ {Z : Nat → Prop} {w : World} {vs : List Value} {eu : Value} {us : List Value}, Reps Z w es vs → vs[j]? = some eu → (vcells eu).length = sz → AReps Z [] w [] [] → (∃ lb u, ARep Z lb w v u ∧ vcells u = us) → AllOne us →
      ∃ u', Rep Z w e' u' ∧ vcells u' = lsp (vcells eu) off us ∧ off + us.length ≤ sz) →
     ∃ e, K e ∧ e.val = none ∧ ∀ s : ASt, (∀ x, x ∈ o.op.operands → ev s.t x = ρ x) → (∀ k, k ∈ touch e → s.L[k]? = ℓ k) → StoreRuns E.P o s e := by
    intro e' hK hcell
    refine ⟨_, hK, rfl, fun s hq ht Z lb a w hs => ?_⟩
    have hr := ev_rep hs (find_ev hq hxm hp)
    have hk : s.L[k]? = some (some (.arr sz es)) := (ht k (by simp [touch])).trans hob
    simp only [ARep] at hr
    obtain ⟨b, hb, hu⟩ := hr
    obtain ⟨vs, arr, ty, fr, g1, g2, g3, g4, g5, g6, g7, g8⟩ := obj_arr hs.own hk hb
    have hvr := ev_rep hs (find_ev hq hym hv)
    obtain ⟨c1, c2⟩ := acells_rep hvr hxs
    have e1 := c1.length
    have e2 := g1.length
    obtain ⟨eu, heu⟩ : ∃ eu, vs[j]? = some eu := ⟨vs[j], by simp [show j < vs.length by omega]⟩
    have hes := (g3 eu (List.mem_of_getElem? heu)).1
    obtain ⟨u', d1, d2, d3⟩ := hcell g1 heu hes rfl ⟨lb, a.eval y, hvr, rfl⟩ c2
    have hb1 : (j + 1) * sz ≤ vs.length * sz := Nat.mul_le_mul_right sz (by omega)
    rw [Nat.succ_mul] at hb1
    have hrun := run_storeVar (o := j * sz + off) F (by omega) g4 (by omega) g5 c2
    obtain ⟨st, own⟩ := hs.own.put hk trivial hb g4 (c' := arrSplice arr (j * sz + off) (vcells (a.eval y))) (arrSplice_size _ _ _) (o' := .arr sz (es.set j e')) (fun st => by
     obtain ⟨x0, k1, k2⟩ := hs.own.obj k _ hk
     rw [hb] at k1
     simp only [Option.some.injEq] at k1
     subst k1
     refine ⟨k2.1, by rw [put_size]; exact k2.2.1, vs.set j u', _, ty, fr, st.reps (Reps.set d1 g1 j), g2, ?_, put_heap g4, by rw [arrSplice_size]; exact g5, ?_, by simpa using g7, by rw [arrSplice_size]; simpa using g8⟩
     ·intro q hq
      rcases List.mem_or_eq_of_mem_set hq with h1 | h1
      ·exact g3 q h1
      ·subst h1; exact ⟨by rw [d2, lsp_length]; exact hes, by rw [d2]; exact AllOne.lsp off (g3 eu (List.mem_of_getElem? heu)).2 c2⟩
     ·intro m u hm q c hc
      have hql : q < (vcells u).length := by
       rcases Nat.lt_or_ge q (vcells u).length with h' | h'
       ·exact h'
       ·simp [List.getElem?_eq_none h'] at hc
      rw [arrSplice_get _ _ _ _ (by omega)]
      by_cases hmj : m = j
      ·subst hmj
       rw [List.getElem?_set_self (by omega)] at hm
       simp only [Option.some.injEq] at hm
       subst hm
       rw [d2] at hc hql
       rw [lsp_length] at hql
       have hl := congrArg (fun l => l[q]?) (arrSplice_list (vcells (a.eval y)) (vcells eu) off)
       simp only [List.getElem?_toArray] at hl
       rw [← hl, arrSplice_get _ _ _ _ (by simp; omega)] at hc
       split at hc
       ·rename_i hin
        rw [if_pos (by omega), show m * sz + q - (m * sz + off) = q - off by omega]
        exact hc
       ·rename_i hin
        rw [if_neg (by omega)]
        exact g6 m eu heu q c (by simpa using hc)
      ·rw [List.getElem?_set_ne (fun hh => hmj hh.symm)] at hm
       have hus := (g3 u (List.mem_of_getElem? hm)).1
       rw [if_neg ?_]
       ·exact g6 m u hm q c hc
       ·rintro ⟨i1, i2⟩
        rcases Nat.lt_or_gt_of_ne hmj with hlt | hlt
        ·have : (m + 1) * sz ≤ j * sz := Nat.mul_le_mul_right sz hlt
         rw [Nat.succ_mul] at this; omega
        ·have : (j + 1) * sz ≤ m * sz := Nat.mul_le_mul_right sz hlt
         rw [Nat.succ_mul] at this; omega)
    exact ⟨_, Z, lb, hexec hu hrun, st, by simpa [setAll, setL_eq] using own⟩
   split at h
   ·rename_i e hw
    obtain ⟨h1, h2, h3⟩ := wholeElem_some hw
    refine main e h ?_
    intro Z w vs eu us g1 heu hes _ hvr h1o
    subst h3
    obtain ⟨lb, u, hvr, rfl⟩ := hvr
    have hl := (acells_rep hvr hxs).1.length
    have hru : Rep Z w e u := by simpa [ARep] using hvr
    refine ⟨u, hru, ?_, by omega⟩
    subst h1
    apply List.ext_getElem?
    intro q
    have hl' := congrArg (fun l => l[q]?) (arrSplice_list (vcells u) (vcells eu) 0)
    simp only [List.getElem?_toArray] at hl'
    rw [← hl', arrSplice_get _ _ _ _ (by simp; omega)]
    split
    ·simp
    ·rename_i hn
     rw [List.getElem?_eq_none (by omega)]
     simp
     omega
   ·obtain ⟨e, he, h⟩ := h
    split at h
    ·rename_i cs ps hcs hps
     obtain ⟨hle, h⟩ := onB_some h
     have hle := Nat.le_of_ble_eq_true hle
     obtain ⟨hsz, h⟩ := onB_some h
     rw [forceP_eq] at h
     refine main _ h ?_
     intro Z w vs eu us g1 heu hes _ hvr h1o
     obtain ⟨lb, u, hvr, rfl⟩ := hvr
     obtain ⟨c1, c2⟩ := acells_rep hvr hxs
     obtain ⟨eu', heu', her⟩ := g1.get j e he
     rw [heu] at heu'
     simp only [Option.some.injEq] at heu'
     subst heu'
     obtain ⟨b1, b2⟩ := pcells_rep her hcs
     have hps' := unp_some _ _ hps
     rw [hps', areps_p] at c1
     have l1 := b1.length
     have l2 := c1.length
     have l3 : xs.length = ps.length := by rw [hps']; simp
     refine ⟨.agg (lsp (vcells eu) off (vcells u)).toArray, ?_, rfl, by omega⟩
     simp only [Rep]
     exact ⟨_, Reps.lsp off b1 c1, rfl, AllOne.lsp off b2 h1o⟩
    ·exact h.elim
  ·rename_i m cs
   obtain ⟨hm, h⟩ := h
   obtain ⟨hle, h⟩ := onB_some h
   have hle := Nat.le_of_ble_eq_true hle
   rw [forceA_eq] at h
   refine ⟨_, h, rfl, fun s hq ht Z lb a w hs => ?_⟩
   have hr := ev_rep hs (find_ev hq hxm hp)
   have hk : s.L[k]? = some (some (.pvar m cs)) := (ht k (by simp [touch])).trans hob
   simp only [ARep] at hr
   obtain ⟨b, hb, hu⟩ := hr
   obtain ⟨c1, c2⟩ := acells_rep (ev_rep hs (find_ev hq hym hv)) hxs
   obtain ⟨w', hrun, st, own⟩ := put_pvar F rfl hs.own hk hb c1 c2 hlen hm hle
   exact ⟨_, Z, lb, hexec hu hrun, st, by simpa [setAll, setL_eq] using own⟩
  ·exact h.elim
 ·exact h.elim
theorem sStore (E : Env) (o : Oper) (T : TypeId) (x y : Operand) (ho : o.op = .store T x y) : Sound E o (vStore E T x y) := by
 intro ρ ℓ K h
 obtain ⟨e, h1, h2, h3⟩ := sStoreK E o T x y ho h
 obtain ⟨v, rd, wr⟩ := e
 simp only at h2
 subst h2
 exact ⟨_, h1, fun s hd hq ht => opAt_skip hd (h3 s hq ht)⟩
end Go.Ab
namespace Go.Ab
variable [Glob]
section kinds
variable {P : Program} {T : TypeId} {i : TyI} {d : TypeDesc} {inf : TypeInfo} {z : Value} (F : TyFacts P T i d inf z)
include F
theorem TyFacts.struct {fs : List FI} (h : i.k = .struct fs) : ∃ l, d = .struct l ∧ fieldsOf P l.toList = some fs := by
 have hk := F.k
 rw [h] at hk
 cases d <;> simp only [kindOf] at hk <;> (repeat' split at hk) <;> simp only [Option.some.injEq, reduceCtorEq, TK.struct.injEq] at hk
 subst hk
 exact ⟨_, rfl, by assumption⟩
theorem TyFacts.arr {n e esz : Nat} {ea : Bool} (h : i.k = .arr n e esz ea) : d = .array n e ∧ ∃ j dd, P.info? e = some j ∧ P.underlying e = some dd ∧ j.size = esz ∧ aggD dd = ea := by
 have hk := F.k
 rw [h] at hk
 cases d <;> simp only [kindOf] at hk <;> (repeat' split at hk) <;> simp only [Option.some.injEq, reduceCtorEq, TK.arr.injEq] at hk
 obtain ⟨rfl, rfl, rfl, rfl⟩ := hk
 exact ⟨rfl, _, _, by assumption, by assumption, rfl, rfl⟩
theorem TyFacts.slice {e esz eb : Nat} {ez : Value} (h : i.k = .slice e esz eb ez) : d = .slice e ∧ ∃ j zz, P.info? e = some j ∧ j.zero = some zz ∧ j.size = esz ∧ j.bytes = eb ∧ zz = ez := by
 have hk := F.k
 rw [h] at hk
 cases d <;> simp only [kindOf] at hk <;> (repeat' split at hk) <;> simp only [Option.some.injEq, reduceCtorEq, TK.slice.injEq] at hk
 obtain ⟨rfl, rfl, rfl, rfl⟩ := hk
 exact ⟨rfl, _, _, by assumption, by assumption, rfl, rfl, rfl⟩
theorem TyFacts.str (h : i.k = .str) : d = .string := by
 have hk := F.k
 rw [h] at hk
 cases d <;> first | rfl | (exfalso; simp only [kindOf] at hk; (repeat' split at hk) <;> simp at hk)
theorem TyFacts.bool (h : i.k = .bool) : d = .bool := by
 have hk := F.k
 rw [h] at hk
 cases d <;> first | rfl | (exfalso; simp only [kindOf] at hk; (repeat' split at hk) <;> simp at hk)
theorem TyFacts.int {k : IntKind} (h : i.k = .int k) : d = .int k := by
 have hk := F.k
 rw [h] at hk
 cases d <;> simp only [kindOf] at hk <;> (repeat' split at hk) <;> simp only [Option.some.injEq, reduceCtorEq, TK.int.injEq] at hk
 subst hk; rfl
theorem TyFacts.ptr {e : TypeId} (h : i.k = .ptr e) : d = .pointer e := by
 have hk := F.k
 rw [h] at hk
 cases d <;> simp only [kindOf] at hk <;> (repeat' split at hk) <;> simp only [Option.some.injEq, reduceCtorEq, TK.ptr.injEq] at hk
 subst hk; rfl
theorem TyFacts.iface {e : Bool} (h : i.k = .iface e) : ∃ ms, d = .interface ms ∧ ms.isEmpty = e := by
 have hk := F.k
 rw [h] at hk
 cases d <;> simp only [kindOf] at hk <;> (repeat' split at hk) <;> simp only [Option.some.injEq, reduceCtorEq, TK.iface.injEq] at hk
 exact ⟨_, rfl, hk⟩
end kinds
structure FFact (P : Program) (f : Field) (fi : FI) : Prop where
 off : fi.off = f.offset
 ty : fi.ty = f.type
 named : fi.named = (f.name != "_")
 info : ∃ j d, P.info? f.type = some j ∧ P.underlying f.type = some d ∧ j.size = fi.size ∧ aggD d = fi.agg
theorem fieldsOf_get {P : Program} : ∀ {l : List Field} {fs : List FI}, fieldsOf P l = some fs → ∀ (n : Nat) fi, fs[n]? = some fi → ∃ f, l[n]? = some f ∧ FFact P f fi
 | [], fs, h, n, fi, hf => by simp [fieldsOf] at h; subst h; simp at hf
 | f :: l, fs, h, n, fi, hf => by
  simp only [fieldsOf] at h
  split at h
  ·rename_i j d r h1 h2 h3
   simp only [Option.some.injEq] at h
   subst h
   cases n with
   | zero =>
    simp only [List.getElem?_cons_zero, Option.some.injEq] at hf
    subst hf
    exact ⟨f, rfl, rfl, rfl, rfl, j, d, h1, h2, rfl, rfl⟩
   | succ n =>
    simp only [List.getElem?_cons_succ] at hf ⊢
    exact fieldsOf_get h3 n fi hf
  ·simp at h
theorem FFact.run_size {P : Program} {f : Field} {fi : FI} (h : FFact P f fi) (w : World) : (sizeOf f.type).run P w = .ok fi.size w := by
 obtain ⟨j, d, h1, h2, h3, h4⟩ := h.info
 unfold sizeOf
 simp [run_typeInfo w h1, h3]
theorem run_isAgg_d {P : Program} {T : TypeId} {d : TypeDesc} (h : P.underlying T = some d) (w : World) : (isAgg T).run P w = .ok (aggD d) w := by
 unfold isAgg
 simp only [Sem.run_bind, run_underlying h, Result.andThen_ok]
 cases d <;> rfl
theorem FFact.run_agg {P : Program} {f : Field} {fi : FI} (h : FFact P f fi) (w : World) : (isAgg f.type).run P w = .ok fi.agg w := by
 obtain ⟨j, d, h1, h2, h3, h4⟩ := h.info
 rw [run_isAgg_d h2, h4]
def bFill (ρ : Operand → Option AV) (pl : Nat → Option (Nat × Nat)) : List (Nat × Operand) → List AV → Option (List AV)
 | [], cs => some cs
 | (i, x) :: r, cs => match pl i, ρ x with
  | some (off, sz), some y => match acells y with
   | some xs => match Nat.beq xs.length sz, Nat.ble (off + sz) cs.length with
    | true, true => bFill ρ pl r (lsp cs off xs)
    | _, _ => none
   | none => none
  | _, _ => none
theorem foldl_splice : ∀ (l : List Value) (k off : Nat) (c : Array Value), (l.zipIdx k).foldl (fun cs (q : Value × Nat) => cs.setIfInBounds (off + q.2) q.1) c = arrSplice c (off + k) l
 | [], _, _, _ => rfl
 | v :: l, k, off, c => by
  simp only [List.zipIdx_cons, List.foldl_cons, arrSplice]
  rw [foldl_splice l (k + 1) off]
  rfl
theorem fill_step (place : Nat → Option (Nat × Nat)) {off sz i : Nat} (hp : place i = some (off, sz)) (v : Value) (cs : Array Value) (rest : List (Nat × Value)) (h1 : (vcells v).length = sz) (h2 : off + sz ≤ cs.size) :
  Instr.fill place cs ((i, v) :: rest) = Instr.fill place (arrSplice cs off (vcells v)) rest := by
 have hs : v.cells.size = sz := by rw [← h1, vcells]; simp
 simp only [Instr.fill, hp, hs, ne_eq, not_true_eq_false, decide_false, Bool.false_or, decide_eq_true_eq]
 rw [if_neg (by omega)]
 congr 1
 have := foldl_splice (vcells v) 0 off cs
 rw [Nat.add_zero] at this
 rw [← this, vcells, ← Array.foldl_toList, Array.toList_zipIdx]
theorem bFill_rep {Z : Nat → Prop} {lb : Lb} {s : ASt} {a : Act} {w : World} (hs : St Z lb s a w) (pl place : Nat → Option (Nat × Nat)) (hpl : ∀ i q, pl i = some q → place i = some q) :
  ∀ (parts : List (Nat × Operand)) (cs cs' : List AV) (vs : List Value), (∀ q, q ∈ parts → ∀ y, ev s.t q.2 = some y → True) → AReps Z lb w cs vs → AllOne vs → bFill (ev s.t) pl parts cs = some cs' →
   ∃ vs', Instr.fill place vs.toArray (parts.map fun q => (q.1, a.eval q.2)) = some vs'.toArray ∧ AReps Z lb w cs' vs' ∧ AllOne vs' ∧ vs'.length = vs.length
 | [], cs, cs', vs, _, h, h1, hb => by
  simp only [bFill, Option.some.injEq] at hb; subst hb
  exact ⟨vs, rfl, h, h1, rfl⟩
 | (i, x) :: r, cs, cs', vs, hq, h, h1, hb => by
  simp only [bFill] at hb
  split at hb
  ·rename_i off sz y hp hy
   split at hb
   ·rename_i xs hxs
    split at hb
    ·rename_i c1 c2
     have c1 := Nat.eq_of_beq_eq_true c1
     have c2 := Nat.le_of_ble_eq_true c2
     obtain ⟨g1, g2⟩ := acells_rep (ev_rep hs hy) hxs
     have e1 := g1.length
     have e2 := h.length
     obtain ⟨vs', k1, k2, k3, k4⟩ := bFill_rep hs pl place hpl r (lsp cs off xs) cs' (lsp vs off (vcells (a.eval x))) (fun q hq' => hq q (List.mem_cons_of_mem _ hq')) (AReps.lsp off h g1) (AllOne.lsp off h1 g2) hb
     refine ⟨vs', ?_, k2, k3, by rw [k4, lsp_length]⟩
     simp only [List.map_cons]
     rw [fill_step place (hpl i _ hp) _ _ _ (by omega) (by simp; omega), arrSplice_list]
     exact k1
    ·simp at hb
   ·simp at hb
  ·simp at hb
theorem bFill_congr {ρ ρ' : Operand → Option AV} (pl : Nat → Option (Nat × Nat)) : ∀ (parts : List (Nat × Operand)) (cs : List AV), (∀ q, q ∈ parts → ρ q.2 = ρ' q.2) → bFill ρ pl parts cs = bFill ρ' pl parts cs
 | [], _, _ => rfl
 | (i, x) :: r, cs, h => by
  have h0 : ρ x = ρ' x := h (i, x) List.mem_cons_self
  have ih := fun cs => bFill_congr pl r cs fun q hq => h q (List.mem_cons_of_mem _ hq)
  simp only [bFill, h0]
  split
  ·split
   ·split
    ·exact ih _
    ·rfl
   ·rfl
  ·rfl
def plStruct (fs : List FI) (i : Nat) : Option (Nat × Nat) := match nth fs i with
 | some f => some (f.off, f.size)
 | none => none
def plArr (sz : Nat) (i : Nat) : Option (Nat × Nat) := some (i * sz, sz)
def plOf : TK → Nat → Option (Nat × Nat)
 | .struct fs => plStruct fs
 | .arr _ _ sz _ => plArr sz
 | _ => fun _ => none
def vBuild (E : Env) (T : TypeId) (parts : List (Nat × Operand)) : Vop := fun ρ _ K => withTy E T fun i => onB i.k.isAgg <| onB (allOneB i.zero) <| withC (bFill ρ (plOf i.k) parts (mapV i.zero)) fun cs => forceA cs fun cs => K ⟨some (mkAgg cs), [], []⟩
theorem run_places' {P : Program} (w : World) : ∀ (l : List Field) (fs : List FI), fieldsOf P l = some fs → (l.mapM fun (f : Field) => do pure (f.offset, ← sizeOf f.type)).run P w = .ok (fs.map fun f => (f.off, f.size)) w
 | [], fs, h => by simp [fieldsOf] at h; subst h; simp
 | f :: l, fs, h => by
  simp only [fieldsOf] at h
  split at h
  ·rename_i j d r h1 h2 h3
   simp only [Option.some.injEq] at h
   subst h
   have ih := run_places' w l r h3
   have hs : (sizeOf f.type).run P w = .ok j.size w := by unfold sizeOf; simp [run_typeInfo w h1]
   simp only [List.mapM_cons, Sem.run_bind, hs, Result.andThen_ok, Sem.run_pure, ih, List.map_cons]
  ·simp at h
theorem sBuild (E : Env) (o : Oper) (T : TypeId) (parts : Array (Nat × Operand)) (ho : o.op = .build T parts) : Sound E o (vBuild E T parts.toList) := by
 intro ρ ℓ K h
 obtain ⟨i, d, inf, z, h, F⟩ := withTy_some h
 obtain ⟨hagg, h⟩ := onB_some h
 obtain ⟨h1, h⟩ := onB_some h
 obtain ⟨cs, hcs, h⟩ := withC_some h
 rw [forceA_eq] at h
 refine ⟨_, h, fun s hd hq ht => opAt_val hd fun Z lb a w hs => ?_⟩
 have hcs' : bFill (ev s.t) (plOf i.k) parts.toList (mapV i.zero) = some cs := by
  rw [← hcs]
  exact bFill_congr _ _ _ fun q hq' => hq q.2 (by simp only [ho, Op.operands]; simp; exact ⟨q.1, Array.mem_toList_iff.1 hq'⟩)
 have h1 := allOneB_ok h1
 have hz : z.cells = i.zero.toArray := by rw [F.zc, vcells]
 have hmap : (parts.map fun x => (x.1, a.eval x.2)).toList = parts.toList.map fun q => (q.1, a.eval q.2) := by simp
 have fin : ∀ (place : Nat → Option (Nat × Nat)), (∀ i' q, plOf i.k i' = some q → place i' = some q) →
   ∃ vs' : List Value, Instr.fill place z.cells (parts.map fun x => (x.1, a.eval x.2)).toList = some vs'.toArray ∧ ARep Z lb w (mkAgg cs) (.agg vs'.toArray) := by
  intro place hp
  obtain ⟨vs', k1, k2, k3, _⟩ := bFill_rep hs (plOf i.k) place hp parts.toList _ _ _ (fun _ _ _ _ => trivial) (mapV_rep h1) h1 hcs'
  refine ⟨vs', ?_, mkAgg_rep k2 k3⟩
  rw [hmap, hz]; exact k1
 have hrun : ∀ (vs' : List Value), (Instr.build T (parts.map fun x => (x.1, a.eval x.2))).run E.P w = .ok (.agg vs'.toArray) w → (execOp a.eval o).run E.P w = .ok (.value (.agg vs'.toArray)) w := by
  intro vs' h
  simp only [execOp, ho, Sem.run_bind, h, Result.andThen_ok, Sem.run_pure]
 cases hk : i.k with
 | struct fs =>
  obtain ⟨l, rfl, hl⟩ := F.struct hk
  have hpl := run_places' (P := E.P) w l.toList fs hl
  obtain ⟨vs', k1, k2⟩ := fin ((fs.map fun f => (f.off, f.size)).toArray[·]?) (by
   intro i' q hq
   rw [hk] at hq
   simp only [plOf, plStruct, nth_eq] at hq
   split at hq
   ·rename_i f hf; simp only [Option.some.injEq] at hq; subst hq; simp [hf]
   ·simp at hq)
  refine ⟨_, hrun vs' ?_, k2⟩
  simp only [Instr.build, Sem.run_bind, F.run_zero, F.run_und, Result.andThen_ok, Array.mapM_eq_mapM_toList, Sem.run_map, hpl, k1, Sem.run_pure]
 | arr n e esz ea =>
  obtain ⟨rfl, j, dd, a1, a2, a3, a4⟩ := F.arr hk
  have hs1 : (sizeOf e).run E.P w = .ok esz w := by unfold sizeOf; simp [run_typeInfo w a1, a3]
  obtain ⟨vs', k1, k2⟩ := fin (fun i => some (i * esz, esz)) (by
   intro i' q hq
   rw [hk] at hq
   simpa [plOf, plArr] using hq)
  refine ⟨_, hrun vs' ?_, k2⟩
  simp only [Instr.build, Sem.run_bind, F.run_zero, F.run_und, Result.andThen_ok, hs1, k1, Sem.run_pure]
 | _ => rw [hk] at hagg; simp [TK.isAgg] at hagg
end Go.Ab
namespace Go.Ab
variable [Glob]
def vFieldAddr (E : Env) (T : TypeId) (x : Operand) (n : Nat) : Vop := fun ρ _ K => withTy E T fun i => match i.k with
 | .struct fs => match nth fs n with
  | some f => onB (Nat.blt 0 f.size) <| withV (ρ x) fun
   | .loc k off => K ⟨some (.loc k (off + f.off)), [], []⟩
   | .p (.eptr cs off) => K ⟨some (.p (.eptr cs (off + f.off))), [], []⟩
   | .eloc k sz j off => K ⟨some (.eloc k sz j (off + f.off)), [], []⟩
   | _ => False
  | none => False
 | _ => False
theorem sFieldAddr (E : Env) (o : Oper) (T : TypeId) (x : Operand) (n : Nat) (ho : o.op = .fieldAddr T x n) : Sound E o (vFieldAddr E T x n) := by
 intro ρ ℓ K h
 obtain ⟨i, d, inf, z, h, F⟩ := withTy_some h
 split at h
 ·rename_i fs hk
  split at h
  ·rename_i f hf
   obtain ⟨hpos, h⟩ := onB_some h
   obtain ⟨y, hy, h⟩ := withV_some h
   obtain ⟨l, rfl, hl⟩ := F.struct hk
   rw [nth_eq] at hf
   obtain ⟨g, hg, ff⟩ := fieldsOf_get hl n f hf
   have hpos : f.size ≠ 0 := by have := Nat.le_of_ble_eq_true hpos; omega
   have hxm : x ∈ o.op.operands := by simp [ho, Op.operands]
   have hrun : ∀ {a : Act} {w : World} {b o' : Nat}, a.eval x = .pointer (some ⟨b, o', none⟩) → (execOp a.eval o).run E.P w = .ok (.value (.pointer (some ⟨b, o' + f.off, none⟩))) w := by
    intro a w b o' hu
    have hg' : l[n]? = some g := by simpa using hg
    simp only [execOp, ho, hu, Instr.fieldAt, Sem.run_bind, F.run_und, Result.andThen_ok, hg', Instr.sureAddr, Sem.run_pure, fieldPlace, ff.run_size, hpos, if_false, addr_add, ff.off]
   split at h
   ·rename_i k off
    refine ⟨_, h, fun s hd hq ht => opAt_val hd fun Z lb a w hs => ?_⟩
    have hr := ev_rep hs (find_ev hq hxm hy)
    simp only [ARep] at hr ⊢
    obtain ⟨b, hb, hu⟩ := hr
    exact ⟨_, hrun hu, b, hb, rfl⟩
   ·rename_i cs off
    refine ⟨_, h, fun s hd hq ht => opAt_val hd fun Z lb a w hs => ?_⟩
    have hr := ev_rep hs (find_ev hq hxm hy)
    simp only [ARep, Rep] at hr ⊢
    obtain ⟨vs, b, o', g1, g2, hu, g4⟩ := hr
    exact ⟨_, hrun hu, vs, b, o', g1, g2, by rw [Nat.add_assoc], g4⟩
   ·rename_i k sz j off
    refine ⟨_, h, fun s hd hq ht => opAt_val hd fun Z lb a w hs => ?_⟩
    have hr := ev_rep hs (find_ev hq hxm hy)
    simp only [ARep] at hr ⊢
    obtain ⟨b, hb, hu⟩ := hr
    exact ⟨_, hrun hu, b, hb, by rw [Nat.add_assoc]⟩
   ·exact h.elim
  ·exact h.elim
 ·exact h.elim
def partA (sz : Nat) (agg : Bool) (off : Nat) (cs : List AV) : Option AV := match agg with
 | true => match takeN sz (cs.drop off) with
  | some l => some (mkAgg l)
  | none => none
 | false => nth cs off
def aggCells : AV → Option (List AV)
 | .p (.agg cs) => some (mapP cs)
 | .agg cs => some cs
 | _ => none
theorem aggCells_rep {Z : Nat → Prop} {lb : Lb} {w : World} {x : AV} {u : Value} {cs : List AV} (h : ARep Z lb w x u) (hc : aggCells x = some cs) : ∃ vs, u = .agg vs.toArray ∧ AReps Z lb w cs vs ∧ AllOne vs := by
 unfold aggCells at hc
 split at hc
 ·simp only [Option.some.injEq] at hc; subst hc
  simp only [ARep, Rep] at h
  obtain ⟨vs, h1, rfl, h2⟩ := h
  exact ⟨vs, rfl, by rw [mapP_eq, areps_p]; exact h1, h2⟩
 ·simp only [Option.some.injEq] at hc; subst hc
  simp only [ARep] at h
  obtain ⟨vs, h1, rfl, h2⟩ := h
  exact ⟨vs, rfl, h1, h2⟩
 ·simp at hc
theorem run_part {P : Program} {T : TypeId} {j : TypeInfo} {d : TypeDesc} (h1 : P.info? T = some j) (h2 : P.underlying T = some d) {Z : Nat → Prop} {lb : Lb} {w : World} {cs : List AV} {vs : List Value} {off : Nat} {y : AV}
  (h : AReps Z lb w cs vs) (ho : AllOne vs) (hp : partA j.size (aggD d) off cs = some y) : ∃ u, (part T vs.toArray off).run P w = .ok u w ∧ ARep Z lb w y u := by
 have hsz : (sizeOf T).run P w = .ok j.size w := by unfold sizeOf; simp [run_typeInfo w h1]
 unfold partA at hp
 unfold part
 simp only [Sem.run_bind, run_isAgg_d h2, Result.andThen_ok]
 split at hp
 ·rename_i ha
  split at hp
  ·rename_i l hl
   obtain ⟨rfl, hle⟩ := takeN_some _ _ _ hl
   simp only [Option.some.injEq] at hp
   subst hp
   rw [if_pos ha]
   simp only [Sem.run_bind, hsz, Result.andThen_ok, Sem.run_pure]
   refine ⟨_, rfl, ?_⟩
   have : vs.toArray.extract off (off + j.size) = ((vs.drop off).take j.size).toArray := by
    apply Array.ext'
    simp [List.extract_eq_take_drop]
   rw [this]
   exact mkAgg_rep ((h.drop off).take _) ((ho.drop off).take _)
  ·simp at hp
 ·rename_i ha
  rw [nth_eq] at hp
  obtain ⟨u, hu, hr⟩ := h.get off y hp
  refine ⟨u, ?_, hr⟩
  rw [if_neg (by simp [ha])]
  simp [hu]
def vField (E : Env) (T : TypeId) (x : Operand) (n : Nat) : Vop := fun ρ _ K => withTy E T fun i => match i.k with
 | .struct fs => match nth fs n with
  | some f => withV (ρ x) fun y => withC (aggCells y) fun cs => withV (partA f.size f.agg f.off cs) fun v => K ⟨some v, [], []⟩
  | none => False
 | _ => False
theorem sField (E : Env) (o : Oper) (T : TypeId) (x : Operand) (n : Nat) (ho : o.op = .field T x n) : Sound E o (vField E T x n) := by
 intro ρ ℓ K h
 obtain ⟨i, d, inf, z, h, F⟩ := withTy_some h
 split at h
 ·rename_i fs hk
  split at h
  ·rename_i f hf
   obtain ⟨y, hy, h⟩ := withV_some h
   obtain ⟨cs, hcs, h⟩ := withC_some h
   obtain ⟨v, hv, h⟩ := withV_some h
   obtain ⟨l, rfl, hl⟩ := F.struct hk
   rw [nth_eq] at hf
   obtain ⟨g, hg, ff⟩ := fieldsOf_get hl n f hf
   have hxm : x ∈ o.op.operands := by simp [ho, Op.operands]
   refine ⟨_, h, fun s hd hq ht => opAt_val hd fun Z lb a w hs => ?_⟩
   obtain ⟨vs, hu, c1, c2⟩ := aggCells_rep (ev_rep hs (find_ev hq hxm hy)) hcs
   obtain ⟨j, dd, i1, i2, i3, i4⟩ := ff.info
   obtain ⟨u, hr, hrep⟩ := run_part i1 i2 c1 c2 (by rw [i3, i4]; exact hv)
   refine ⟨u, ?_, hrep⟩
   have hg' : l[n]? = some g := by simpa using hg
   rw [ff.off] at hr
   simp only [execOp, ho, hu, Instr.field, Sem.run_bind, F.run_und, Result.andThen_ok, hg', asAgg, Sem.run_pure, hr]
  ·exact h.elim
 ·exact h.elim
def vExtract (x : Operand) (n : Nat) : Vop := fun ρ _ K => withV (ρ x) fun
 | .p (.tup cs) => withV (nth (mapP cs) n) fun v => K ⟨some v, [], []⟩
 | .tup cs => withV (nth cs n) fun v => K ⟨some v, [], []⟩
 | _ => False
theorem sExtract (E : Env) (o : Oper) (x : Operand) (n : Nat) (ho : o.op = .extract x n) : Sound E o (vExtract x n) := by
 intro ρ ℓ K h
 obtain ⟨y, hy, h⟩ := withV_some h
 have hxm : x ∈ o.op.operands := by simp [ho, Op.operands]
 have hrun : ∀ {Z : Nat → Prop} {lb : Lb} {a : Act} {w : World} {vs : List Value} {cs : List AV} {v : AV}, a.eval x = .tuple vs.toArray → AReps Z lb w cs vs → nth cs n = some v → ∃ u, (execOp a.eval o).run E.P w = .ok (.value u) w ∧ ARep Z lb w v u := by
  intro Z lb a w vs cs v hu hr hv
  rw [nth_eq] at hv
  obtain ⟨u, h1, h2⟩ := hr.get n v hv
  refine ⟨u, ?_, h2⟩
  simp [execOp, ho, hu, Instr.extract, h1]
 split at h
 ·rename_i cs
  obtain ⟨v, hv, h⟩ := withV_some h
  refine ⟨_, h, fun s hd hq ht => opAt_val hd fun Z lb a w hs => ?_⟩
  have hr := ev_rep hs (find_ev hq hxm hy)
  simp only [ARep, Rep] at hr
  obtain ⟨vs, h1, h2⟩ := hr
  exact hrun h2 (by rw [mapP_eq, areps_p]; exact h1) hv
 ·rename_i cs
  obtain ⟨v, hv, h⟩ := withV_some h
  refine ⟨_, h, fun s hd hq ht => opAt_val hd fun Z lb a w hs => ?_⟩
  have hr := ev_rep hs (find_ev hq hxm hy)
  simp only [ARep] at hr
  obtain ⟨vs, h1, h2⟩ := hr
  exact hrun h2 h1 hv
 ·exact h.elim
def ptrOf (g : Value) (k : Nat) : Value := match g with
 | .slice (some a) _ _ => .pointer (some ⟨a.block, a.off + k, none⟩)
 | _ => .pointer none
def vIndexAddr (E : Env) (T : TypeId) (x ix : Operand) : Vop := fun ρ _ K => withTy E T fun i => withV (ρ ix) fun
 | .p (.v (.int _ n)) => withV (ρ x) fun y => match i.k, y with
  | .slice _ esz _ _, .p (.view sz es) => Nat.beq sz esz = true ∧ pickE (fun e => 0 ≤ n ∧ es[n.toNat]? = some e) (fun e => (match pcells e with
   | some cs => forceP cs fun cs => K ⟨some (.p (.eptr cs 0)), [], []⟩
   | none => False)) ⟨⟩
  | .slice _ esz _ _, .p (.rv g (.view sz es)) => Nat.beq sz esz = true ∧ pickE (fun e => 0 ≤ n ∧ es[n.toNat]? = some e) (fun e => (match pcells e with
   | some cs => forceP cs fun cs => K ⟨some (.p (.rv (ptrOf g (n.toNat * sz)) (.eptr cs 0))), [], []⟩
   | none => False)) ⟨⟩
  | .slice _ esz _ _, .sl k sz st m => Nat.beq sz esz = true ∧ (0 ≤ n ∧ n < m) ∧ K ⟨some (.eloc k sz (st + n.toNat) 0), [], []⟩
  | .arr m _ esz _, .loc k off => (0 ≤ n ∧ n < m) ∧ K ⟨some (.loc k (off + n.toNat * esz)), [], []⟩
  | .arr m _ esz _, .p (.eptr cs off) => (0 ≤ n ∧ n < m) ∧ K ⟨some (.p (.eptr cs (off + n.toNat * esz))), [], []⟩
  | .arr m _ esz _, .eloc k sz j off => (0 ≤ n ∧ n < m) ∧ K ⟨some (.eloc k sz j (off + n.toNat * esz)), [], []⟩
  | _, _ => False
 | _ => False
theorem sIndexAddr (E : Env) (o : Oper) (T : TypeId) (x ix : Operand) (ho : o.op = .indexAddr T x ix) : Sound E o (vIndexAddr E T x ix) := by
 intro ρ ℓ K h
 obtain ⟨i, d, inf, z, h, F⟩ := withTy_some h
 obtain ⟨yi, hyi, h⟩ := withV_some h
 have hxm : x ∈ o.op.operands := by simp [ho, Op.operands]
 have him : ix ∈ o.op.operands := by simp [ho, Op.operands]
 split at h
 ·rename_i kk n
  obtain ⟨y, hy, h⟩ := withV_some h
  have hix : ∀ {Z : Nat → Prop} {lb : Lb} {s : ASt} {a : Act} {w : World}, St Z lb s a w → (∀ q, q ∈ o.op.operands → ev s.t q = ρ q) → a.eval ix = .int kk n := by
   intro Z lb s a w hs hq
   have := ev_rep hs (find_ev hq him hyi)
   simp only [ARep, Rep] at this
   exact this.1
  have hrunS : ∀ {e esz eb : Nat} {ez : Value}, i.k = .slice e esz eb ez → ∀ {a : Act} {w : World} {b o' len cap : Nat}, a.eval x = .slice (some ⟨b, o', none⟩) len cap → a.eval ix = .int kk n → 0 ≤ n → n < len →
    (execOp a.eval o).run E.P w = .ok (.value (.pointer (some ⟨b, o' + n.toNat * esz, none⟩))) w := by
   intro e esz eb ez hk a w b o' len cap hu hi h0 h1
   obtain ⟨rfl, j, zz, i1, i2, i3, i4, i5⟩ := F.slice hk
   have hsz : (sizeOf e).run E.P w = .ok esz w := by unfold sizeOf; simp [run_typeInfo w i1, i3]
   simp only [execOp, ho, hu, hi, Instr.indexAt, asIntOf, Sem.run_bind, Sem.run_pure, Result.andThen_ok, F.run_und, Sem.run_ite, h0, h1, and_self, if_true, hsz, addr_add]
  have hrunA : ∀ {m e esz : Nat} {ea : Bool}, i.k = .arr m e esz ea → ∀ {a : Act} {w : World} {b o' : Nat}, a.eval x = .pointer (some ⟨b, o', none⟩) → a.eval ix = .int kk n → 0 ≤ n → n < m →
    (execOp a.eval o).run E.P w = .ok (.value (.pointer (some ⟨b, o' + n.toNat * esz, none⟩))) w := by
   intro m e esz ea hk a w b o' hu hi h0 h1
   obtain ⟨rfl, j, dd, i1, i2, i3, i4⟩ := F.arr hk
   have hsz : (sizeOf e).run E.P w = .ok esz w := by unfold sizeOf; simp [run_typeInfo w i1, i3]
   simp only [execOp, ho, hu, hi, Instr.indexAt, asIntOf, Instr.sureAddr, Sem.run_bind, Sem.run_pure, Result.andThen_ok, F.run_und, Sem.run_ite, h0, h1, and_self, if_true, hsz, addr_add]
  split at h
  ·rename_i e' esz eb ez sz es hk
   obtain ⟨hsz, e, ⟨h0, he⟩, h⟩ := h
   have hsz := Nat.eq_of_beq_eq_true hsz
   subst hsz
   split at h
   ·rename_i cs hcs
    rw [forceP_eq] at h
    refine ⟨_, h, fun s hd hq ht => opAt_val hd fun Z lb a w hs => ?_⟩
    have hr := ev_rep hs (find_ev hq hxm hy)
    simp only [ARep, Rep] at hr ⊢
    obtain ⟨vs, base, cap, g1, hu, g3, g4, g5, g6⟩ := hr
    obtain ⟨u, hu1, hu2⟩ := g1.get _ e he
    have hlt : n.toNat < vs.length := by
     rcases Nat.lt_or_ge n.toNat vs.length with h' | h'
     ·exact h'
     ·simp [List.getElem?_eq_none h'] at hu1
    cases base with
    | none => obtain ⟨h1, h2⟩ := g6; omega
    | some ad =>
     obtain ⟨h1, h2⟩ := g6
     rcases h2 with h2 | ⟨k1, k2, k3⟩
     ·omega
     ·obtain ⟨ab, ao, asp⟩ := ad
      simp only at k1 k2 k3
      subst k1
      obtain ⟨c1, c2⟩ := pcells_rep hu2 hcs
      exact ⟨_, hrunS hk hu (hix hs hq) h0 (by omega), vcells u, ab, _, c1, c2, by rw [Nat.add_zero], k2, k3 _ u hu1⟩
   ·exact h.elim
  ·rename_i e' esz eb ez g sz es hk
   obtain ⟨hsz, e, ⟨h0, he⟩, h⟩ := h
   have hsz := Nat.eq_of_beq_eq_true hsz
   subst hsz
   split at h
   ·rename_i cs hcs
    rw [forceP_eq] at h
    refine ⟨_, h, fun s hd hq ht => opAt_val hd fun Z lb a w hs => ?_⟩
    have hr := ev_rep hs (find_ev hq hxm hy)
    simp only [ARep, Rep] at hr ⊢
    obtain ⟨hug, _, ⟨vs, base, cap, g1, hu, g3, g4, g5, g6⟩, _⟩ := hr
    obtain ⟨u, hu1, hu2⟩ := g1.get _ e he
    have hlt : n.toNat < vs.length := by
     rcases Nat.lt_or_ge n.toNat vs.length with h' | h'
     ·exact h'
     ·simp [List.getElem?_eq_none h'] at hu1
    cases base with
    | none => obtain ⟨h1, h2⟩ := g6; omega
    | some ad =>
     obtain ⟨h1, h2⟩ := g6
     rcases h2 with h2 | ⟨k1, k2, k3⟩
     ·omega
     ·obtain ⟨ab, ao, asp⟩ := ad
      simp only at k1 k2 k3
      subst k1
      obtain ⟨c1, c2⟩ := pcells_rep hu2 hcs
      rw [hu] at hug
      subst hug
      exact ⟨_, hrunS hk hu (hix hs hq) h0 (by omega), rfl, rfl, ⟨vcells u, ab, _, c1, c2, by rw [Nat.add_zero], k2, k3 _ u hu1⟩, fun _ _ _ e => by cases e⟩
   ·exact h.elim
  ·rename_i e' esz eb ez k sz st m hk
   obtain ⟨hsz, ⟨h0, h1⟩, h⟩ := h
   have hsz := Nat.eq_of_beq_eq_true hsz
   subst hsz
   refine ⟨_, h, fun s hd hq ht => opAt_val hd fun Z lb a w hs => ?_⟩
   have hr := ev_rep hs (find_ev hq hxm hy)
   simp only [ARep] at hr ⊢
   rcases hr with ⟨_, h3, _⟩ | ⟨b, cap, g1, hu, g3, g4⟩
   ·omega
   ·exact ⟨_, hrunS hk hu (hix hs hq) h0 h1, b, g1, by rw [Nat.add_zero, ← Nat.add_mul]⟩
  ·rename_i m e' esz ea k off hk
   obtain ⟨⟨h0, h1⟩, h⟩ := h
   refine ⟨_, h, fun s hd hq ht => opAt_val hd fun Z lb a w hs => ?_⟩
   have hr := ev_rep hs (find_ev hq hxm hy)
   simp only [ARep] at hr ⊢
   obtain ⟨b, hb, hu⟩ := hr
   exact ⟨_, hrunA hk hu (hix hs hq) h0 h1, b, hb, rfl⟩
  ·rename_i m e' esz ea cs off hk
   obtain ⟨⟨h0, h1⟩, h⟩ := h
   refine ⟨_, h, fun s hd hq ht => opAt_val hd fun Z lb a w hs => ?_⟩
   have hr := ev_rep hs (find_ev hq hxm hy)
   simp only [ARep, Rep] at hr ⊢
   obtain ⟨vs, b, o', g1, g2, hu, g4⟩ := hr
   exact ⟨_, hrunA hk hu (hix hs hq) h0 h1, vs, b, o', g1, g2, by rw [Nat.add_assoc], g4⟩
  ·rename_i m e' esz ea k sz j off hk
   obtain ⟨⟨h0, h1⟩, h⟩ := h
   refine ⟨_, h, fun s hd hq ht => opAt_val hd fun Z lb a w hs => ?_⟩
   have hr := ev_rep hs (find_ev hq hxm hy)
   simp only [ARep] at hr ⊢
   obtain ⟨b, hb, hu⟩ := hr
   exact ⟨_, hrunA hk hu (hix hs hq) h0 h1, b, hb, by rw [Nat.add_assoc]⟩
  ·exact h.elim
 ·exact h.elim
def byteAt (s : ByteArray) (n : Nat) : Int := (s.data.toList.getD n 0).toNat
def vIndex (E : Env) (T : TypeId) (x ix : Operand) : Vop := fun ρ _ K => withTy E T fun i => withV (ρ ix) fun
 | .p (.v (.int _ n)) => withV (ρ x) fun y => match i.k, y with
  | .str, .p (.v (.string s)) => (0 ≤ n ∧ n.toNat < s.size) ∧ K ⟨some (.p (.v (.int .u8 (byteAt s n.toNat)))), [], []⟩
  | .arr m _ esz ea, y => (0 ≤ n ∧ n < m) ∧ withC (aggCells y) fun cs => ∃ v, partA esz ea (n.toNat * esz) cs = some v ∧ K ⟨some v, [], []⟩
  | _, _ => False
 | _ => False
theorem sIndex (E : Env) (o : Oper) (T : TypeId) (x ix : Operand) (ho : o.op = .index T x ix) : Sound E o (vIndex E T x ix) := by
 intro ρ ℓ K h
 obtain ⟨i, d, inf, z, h, F⟩ := withTy_some h
 obtain ⟨yi, hyi, h⟩ := withV_some h
 have hxm : x ∈ o.op.operands := by simp [ho, Op.operands]
 have him : ix ∈ o.op.operands := by simp [ho, Op.operands]
 split at h
 ·rename_i kk n
  obtain ⟨y, hy, h⟩ := withV_some h
  have hix : ∀ {Z : Nat → Prop} {lb : Lb} {s : ASt} {a : Act} {w : World}, St Z lb s a w → (∀ q, q ∈ o.op.operands → ev s.t q = ρ q) → a.eval ix = .int kk n := by
   intro Z lb s a w hs hq
   have := ev_rep hs (find_ev hq him hyi)
   simp only [ARep, Rep] at this
   exact this.1
  split at h
  ·rename_i bs hk
   obtain ⟨⟨h0, h1⟩, h⟩ := h
   refine ⟨_, h, fun s hd hq ht => opAt_val hd fun Z lb a w hs => ⟨.int .u8 (byteAt bs n.toNat), ?_, by simp [ARep, Rep, oneB]⟩⟩
   have hr := ev_rep hs (find_ev hq hxm hy)
   simp only [ARep, Rep] at hr
   have hst := F.str hk
   subst hst
   have hb : bs[n.toNat]? = some (bs.data.toList.getD n.toNat 0) := by
    have : n.toNat < bs.data.toList.length := by simpa using h1
    simp only [List.getD, List.getElem?_eq_getElem this, Option.getD_some]
    rw [getElem?_pos bs n.toNat (by simpa using h1)]
    rfl
   simp only [execOp, ho, hr.1, hix hs hq, Instr.index, asIntOf, Sem.run_bind, Sem.run_pure, Result.andThen_ok, F.run_und, h0, if_true, hb, byteAt]
  ·rename_i y' m e esz ea hk
   obtain ⟨⟨h0, h1⟩, h⟩ := h
   obtain ⟨cs, hcs, h⟩ := withC_some h
   obtain ⟨v, hv, h⟩ := h
   refine ⟨_, h, fun s hd hq ht => opAt_val hd fun Z lb a w hs => ?_⟩
   obtain ⟨vs, hu, c1, c2⟩ := aggCells_rep (ev_rep hs (find_ev hq hxm hy)) hcs
   obtain ⟨rfl, j, dd, i1, i2, rfl, rfl⟩ := F.arr hk
   have hsz : (sizeOf e).run E.P w = .ok j.size w := by unfold sizeOf; simp [run_typeInfo w i1]
   obtain ⟨u, hr, hrep⟩ := run_part i1 i2 c1 c2 hv
   refine ⟨u, ?_, hrep⟩
   simp only [execOp, ho, hu, hix hs hq, Instr.index, asIntOf, Sem.run_bind, Sem.run_pure, Result.andThen_ok, F.run_und, Sem.run_ite, h0, h1, and_self, if_true, hsz, hr]
  ·exact h.elim
 ·exact h.elim
end Go.Ab
namespace Go.Ab
variable [Glob]
def vOk (x : Value) : AV := .p (.v x)
def vbinInt (op : BinOp) (k : IntKind) (x y : Int) (K : AV → Prop) : Prop := match op with
 | .add => K (vOk (.int k (k.wrap (x + y))))
 | .sub => K (vOk (.int k (k.wrap (x - y))))
 | .mul => K (vOk (.int k (k.wrap (x * y))))
 | .quo => y ≠ 0 ∧ K (vOk (.int k (k.wrap (x.tdiv y))))
 | .rem => y ≠ 0 ∧ K (vOk (.int k (x.tmod y)))
 | .and => K (vOk (.int k (k.wrap (BitVec.ofInt k.bits x &&& BitVec.ofInt k.bits y).toNat)))
 | .or => K (vOk (.int k (k.wrap (BitVec.ofInt k.bits x ||| BitVec.ofInt k.bits y).toNat)))
 | .xor => K (vOk (.int k (k.wrap (BitVec.ofInt k.bits x ^^^ BitVec.ofInt k.bits y).toNat)))
 | .andNot => K (vOk (.int k (k.wrap (BitVec.ofInt k.bits x &&& ~~~(BitVec.ofInt k.bits y)).toNat)))
 | .eql => K (vOk (.bool (x == y)))
 | .neq => K (vOk (.bool (x != y)))
 | .lss => K (vOk (.bool (decide (x < y))))
 | .leq => K (vOk (.bool (decide (x ≤ y))))
 | .gtr => K (vOk (.bool (decide (x > y))))
 | .geq => K (vOk (.bool (decide (x ≥ y))))
 | _ => False
def vshift (op : BinOp) (k : IntKind) (x y : Int) (K : AV → Prop) : Prop := match op with
 | .shl => 0 ≤ y ∧ K (vOk (.int k (k.wrap (x * 2 ^ (min y.toNat k.bits)))))
 | .shr => 0 ≤ y ∧ K (vOk (.int k (x.fdiv (2 ^ (min y.toNat k.bits)))))
 | _ => False
def isShift : BinOp → Bool | .shl => true | .shr => true | _ => false
def vbinStr (op : BinOp) (x y : ByteArray) (K : AV → Prop) : Prop := match op with
 | .add => ((x.size + y.size : Nat) : Int) ≤ IntKind.i64.max ∧ K (vOk (.string (x ++ y)))
 | .eql => K (vOk (.bool (x.toList == y.toList)))
 | .neq => K (vOk (.bool (!(x.toList == y.toList))))
 | .lss => K (vOk (.bool (Op.bytesLess x.toList y.toList)))
 | .leq => K (vOk (.bool (Op.bytesLess x.toList y.toList || x.toList == y.toList)))
 | .gtr => K (vOk (.bool (!(Op.bytesLess x.toList y.toList || x.toList == y.toList))))
 | .geq => K (vOk (.bool (!(Op.bytesLess x.toList y.toList))))
 | _ => False
def eqScalar : TK → Value → Value → Option Bool
 | .int _, .int k a, .int k' b => match kbeq k k' with
  | true => some (a == b)
  | false => none
 | .bool, .bool a, .bool b => some (a == b)
 | .str, .string a, .string b => some (a.toList == b.toList)
 | _, _, _ => none
def takeAt (sz off : Nat) (l : List Value) : Option (List Value) := takeN sz (l.drop off)
def eqFs (rc : TypeId → List Value → List Value → Option Bool) : List FI → List Value → List Value → Option Bool
 | [], _, _ => some true
 | f :: fs, xs, ys => match f.named with
  | false => eqFs rc fs xs ys
  | true => match takeAt f.size f.off xs, takeAt f.size f.off ys with
   | some a, some b => match rc f.ty a b, eqFs rc fs xs ys with
    | some r, some q => some (r && q)
    | _, _ => none
   | _, _ => none
def idxs : Nat → Nat → List Nat
 | 0, _ => []
 | k + 1, i => i :: idxs k (i + 1)
theorem idxs_range : ∀ k i, idxs k i = List.range' i k
 | 0, _ => rfl
 | k + 1, i => by rw [idxs, idxs_range k, List.range'_succ]
def eqIs (rc : TypeId → List Value → List Value → Option Bool) (T : TypeId) (sz : Nat) (xs ys : List Value) : List Nat → Option Bool
 | [] => some true
 | i :: is => match takeAt sz (i * sz) xs, takeAt sz (i * sz) ys with
  | some a, some b => match rc T a b, eqIs rc T sz xs ys is with
   | some r, some q => some (r && q)
   | _, _ => none
  | _, _ => none
def eqT (tys : List (TypeId × TyI)) : Nat → TypeId → List Value → List Value → Option Bool
 | 0, _, _, _ => none
 | d + 1, T, xs, ys => match tfind tys T with
  | none => none
  | some i => match i.k with
   | .struct fs => match i.held with
    | false => eqFs (eqT tys d) fs xs ys
    | true => none
   | .arr n e sz _ => eqIs (eqT tys d) e sz xs ys (idxs n 0)
   | k => match xs, ys with
    | [x], [y] => eqScalar k x y
    | _, _ => none
def wrapT (agg : Bool) (xs : List Value) : Value := match agg with
 | true => .agg xs.toArray
 | false => xs.headD undef
theorem run_part_val {P : Program} {T : TypeId} {j : TypeInfo} {d : TypeDesc} (h1 : P.info? T = some j) (h2 : P.underlying T = some d) {w : World} {vs : List Value} {off : Nat} {l : List Value}
  (hl : takeAt j.size off vs = some l) (hone : aggD d = false → l.length = 1) : (part T vs.toArray off).run P w = .ok (wrapT (aggD d) l) w := by
 have hsz : (sizeOf T).run P w = .ok j.size w := by unfold sizeOf; simp [run_typeInfo w h1]
 obtain ⟨rfl, hle⟩ := takeN_some _ _ _ hl
 unfold part
 simp only [Sem.run_bind, run_isAgg_d h2, Result.andThen_ok]
 cases ha : aggD d with
 | true =>
  rw [if_pos rfl]
  simp only [Sem.run_bind, hsz, Result.andThen_ok, Sem.run_pure, wrapT]
  congr 2
  apply Array.ext'
  simp [List.extract_eq_take_drop]
 | false =>
  rw [if_neg (by simp)]
  have hone := hone ha
  simp only [List.length_take, List.length_drop] at hone
  have hlt : off < vs.length := by omega
  have hj : 0 < j.size := by omega
  simp only [List.getElem?_toArray, List.getElem?_eq_getElem hlt, Sem.run_pure, wrapT]
  congr 1
  have hd : vs.drop off = vs[off] :: vs.drop (off + 1) := List.drop_eq_getElem_cons hlt
  obtain ⟨m, hm⟩ : ∃ m, j.size = m + 1 := ⟨j.size - 1, by omega⟩
  rw [hd, hm, List.take_succ_cons]
  rfl
theorem run_eqFields {P : Program} (E : Env) (hP : E.P = P) (dd : Nat) (rc : TypeId → List Value → List Value → Option Bool) (w : World)
  (hrc : ∀ T j d a b r, P.info? T = some j → P.underlying T = some d → rc T a b = some r → (aggD d = false → a.length = 1 ∧ b.length = 1) ∧ (Op.equalIn dd T (wrapT (aggD d) a) (wrapT (aggD d) b)).run P w = .ok r w) :
  ∀ (l : List Field) (fs : List FI) (xs ys : List Value) (r : Bool), fieldsOf P l = some fs → eqFs rc fs xs ys = some r → (Op.eqFields dd xs.toArray ys.toArray l).run P w = .ok r w
 | [], fs, xs, ys, r, h, he => by
  simp [fieldsOf] at h; subst h
  simp [eqFs] at he; subst he
  simp [Op.eqFields]
 | f :: l, fs, xs, ys, r, h, he => by
  simp only [fieldsOf] at h
  split at h
  ·rename_i j d r0 h1 h2 h3
   simp only [Option.some.injEq] at h
   subst h
   simp only [eqFs] at he
   split at he
   ·rename_i hn
    have hn : f.name = "_" := by simpa using hn
    simp only [Op.eqFields, hn, ne_eq, not_true_eq_false, if_false]
    exact run_eqFields E hP dd rc w hrc l r0 xs ys r h3 he
   ·rename_i hn
    have hn : f.name ≠ "_" := by simpa using hn
    split at he
    ·rename_i a b ha hb
     split at he
     ·rename_i r1 q h4 h5
      simp only [Option.some.injEq] at he
      subst he
      obtain ⟨g1, g2⟩ := hrc _ j d a b r1 h1 h2 h4
      have ih := run_eqFields E hP dd rc w hrc l r0 xs ys q h3 h5
      have p1 := run_part_val (w := w) h1 h2 ha (fun hh => (g1 hh).1)
      have p2 := run_part_val (w := w) h1 h2 hb (fun hh => (g1 hh).2)
      simp only [Op.eqFields, hn, ne_eq, not_false_eq_true, if_true, Sem.run_bind, p1, Result.andThen_ok, p2, g2]
      cases r1 <;> simp [ih]
     ·simp at he
    ·simp at he
  ·simp at h
theorem run_eqIs {P : Program} (dd : Nat) (rc : TypeId → List Value → List Value → Option Bool) (w : World) {T : TypeId} {j : TypeInfo} {d : TypeDesc} (h1 : P.info? T = some j) (h2 : P.underlying T = some d)
  (hrc : ∀ a b r, rc T a b = some r → (aggD d = false → a.length = 1 ∧ b.length = 1) ∧ (Op.equalIn dd T (wrapT (aggD d) a) (wrapT (aggD d) b)).run P w = .ok r w) :
  ∀ (is : List Nat) (xs ys : List Value) (r : Bool), eqIs rc T j.size xs ys is = some r → (Op.eqItems dd T j.size xs.toArray ys.toArray is).run P w = .ok r w
 | [], xs, ys, r, he => by
  simp [eqIs] at he; subst he
  simp [Op.eqItems]
 | i :: is, xs, ys, r, he => by
  simp only [eqIs] at he
  split at he
  ·rename_i a b ha hb
   split at he
   ·rename_i r1 q h4 h5
    simp only [Option.some.injEq] at he
    subst he
    obtain ⟨g1, g2⟩ := hrc a b r1 h4
    have ih := run_eqIs dd rc w h1 h2 hrc is xs ys q h5
    have p1 := run_part_val (w := w) h1 h2 ha (fun hh => (g1 hh).1)
    have p2 := run_part_val (w := w) h1 h2 hb (fun hh => (g1 hh).2)
    simp only [Op.eqItems, Sem.run_bind, p1, Result.andThen_ok, p2, g2]
    cases r1 <;> simp [ih]
   ·simp at he
  ·simp at he
theorem run_eqT (E : Env) (w : World) : ∀ (d : Nat) (dd : Nat), d ≤ dd → ∀ (T : TypeId) (xs ys : List Value) (r : Bool) (ds : TypeDesc), E.P.underlying T = some ds → eqT E.tys d T xs ys = some r →
  (aggD ds = false → xs.length = 1 ∧ ys.length = 1) ∧ (Op.equalIn dd T (wrapT (aggD ds) xs) (wrapT (aggD ds) ys)).run E.P w = .ok r w
 | 0, _, _, T, xs, ys, r, ds, hu, h => by simp [eqT] at h
 | d + 1, 0, hle, _, _, _, _, _, _, _ => by omega
 | d + 1, dd + 1, hle, T, xs, ys, r, ds, hu, h => by
  simp only [eqT] at h
  split at h
  ·simp at h
  ·rename_i i hi
   obtain ⟨ds', inf, z, F⟩ := tyOf_some (E.ok T i hi)
   have : ds' = ds := by have := F.und; rw [hu] at this; simpa using this.symm
   subst this
   split at h
   ·rename_i fs hk
    split at h
    ·rename_i hheld
     obtain ⟨l, rfl, hl⟩ := F.struct hk
     refine ⟨fun hh => by simp [aggD] at hh, ?_⟩
     have hfo : E.P.fieldsOf T = l := by simp [Program.fieldsOf, hu]
     have := run_equalIn_struct (P := E.P) w dd T xs.toArray ys.toArray (by rw [hfo, hu]) (by rw [← F.held]; exact hheld)
     simp only [wrapT, aggD]
     rw [this, hfo]
     exact run_eqFields E rfl dd (eqT E.tys d) w (fun T' j d' a b r' h1 h2 h3 => run_eqT E w d dd (by omega) T' a b r' d' h2 h3) l.toList fs xs ys r hl h
    ·simp at h
   ·rename_i n e sz ea hk
    obtain ⟨rfl, j, de, h1, h2, rfl, rfl⟩ := F.arr hk
    refine ⟨fun hh => by simp [aggD] at hh, ?_⟩
    simp only [wrapT, aggD]
    rw [run_equalIn_array w dd xs.toArray ys.toArray hu h1, show E.P.cellsOf e = j.size by simp [Program.cellsOf, h1], List.range_eq_range', ← idxs_range]
    exact run_eqIs dd (eqT E.tys d) w h1 h2 (fun a b r' h3 => run_eqT E w d dd (by omega) e a b r' de h2 h3) (idxs n 0) xs ys r h
   ·rename_i k hk1 hk2
    split at h
    ·rename_i x y
     have hag : aggD ds' = false := by
      have hk := F.k
      cases ds' <;> first | rfl | (exfalso; simp only [kindOf] at hk; (repeat' split at hk) <;> simp only [Option.some.injEq, reduceCtorEq] at hk <;> first | exact hk1 _ hk.symm | exact hk2 _ _ _ _ hk.symm)
     refine ⟨fun _ => ⟨rfl, rfl⟩, ?_⟩
     simp only [hag, wrapT, List.headD_cons]
     unfold eqScalar at h
     split at h
     ·rename_i k0 ka a kb b hkk
      split at h
      ·rename_i hkb
       have := kbeq_eq hkb
       subst this
       simp only [Option.some.injEq] at h
       subst h
       have := F.int hkk
       subst this
       exact run_equalIn_int w dd T _ _ a b hu
      ·simp at h
     ·rename_i a b hkk
      simp only [Option.some.injEq] at h
      subst h
      have := F.bool hkk
      subst this
      exact run_equalIn_bool' w dd T a b hu
     ·rename_i a b hkk
      simp only [Option.some.injEq] at h
      subst h
      have := F.str hkk
      subst this
      exact run_equalIn_string w dd T a b hu
     ·simp at h
    ·simp at h
def unV : List AV → Option (List Value)
 | [] => some []
 | .p (.v x) :: xs => match unV xs with
  | some l => some (x :: l)
  | none => none
 | _ :: _ => none
theorem unV_rep {Z : Nat → Prop} {lb : Lb} {w : World} : ∀ {l : List AV} {l' vs : List Value}, unV l = some l' → AReps Z lb w l vs → vs = l'
 | [], l', vs, h, hr => by simp [unV] at h; subst h; simpa [AReps] using hr
 | x :: l, l', vs, h, hr => by
  cases x with
  | p y =>
   cases y with
   | v z =>
    simp only [unV] at h
    split at h
    ·rename_i l0 h0
     simp only [Option.some.injEq] at h; subst h
     simp only [AReps, ARep, Rep] at hr
     obtain ⟨u, us, rfl, ⟨rfl, _⟩, h3⟩ := hr
     rw [unV_rep h0 h3]
    ·simp at h
   | _ => simp [unV] at h
  | _ => simp [unV] at h
def isNilPtr : AV → Option Bool
 | .p (.v (.pointer none)) => some true
 | .p (.eptr _ _) => some false
 | .loc _ _ => some false
 | .eloc _ _ _ _ => some false
 | _ => none
def isNilSl : AV → Option Bool
 | .p (.v (.slice none _ _)) => some true
 | .p (.nview _ _) => some false
 | _ => none
def vEq (E : Env) (neg : Bool) (T : TypeId) (x y : AV) (K : AV → Prop) : Prop := match x, y with
 | .p (.v (.bool a)), .p (.v (.bool b)) => withTy E T fun i => match i.k with
  | .bool => K (vOk (.bool (match neg with | true => !(a == b) | false => a == b)))
  | _ => False
 | x, y => match aggCells x, aggCells y with
  | some xs, some ys => withTy E T fun i => onB i.k.isAgg <| onB (!i.eqg) <| match unV xs, unV ys with
   | some xs, some ys => match eqT E.tys 10 T xs ys with
    | some r => K (vOk (.bool (match neg with | true => !r | false => r)))
    | none => False
   | _, _ => False
  | _, _ => match isNilPtr x, isNilPtr y with
   | some a, some true => withTy E T fun i => match i.k with
    | .ptr _ => K (vOk (.bool (match neg with | true => !a | false => a)))
    | _ => False
   | some a, some false => onB a <| withTy E T fun i => match i.k with
    | .ptr _ => K (vOk (.bool neg))
    | _ => False
   | _, _ => match isNilSl x, isNilSl y with
    | some a, some true => withTy E T fun i => match i.k with
     | .slice _ _ _ _ => K (vOk (.bool (match neg with | true => !a | false => a)))
     | _ => False
    | none, some true => (match x with
     | .sl _ _ _ n => 0 < n ∧ withTy E T fun i => match i.k with
      | .slice _ _ _ _ => K (vOk (.bool neg))
      | _ => False
     | _ => False)
    | _, _ => False
def isCst : Operand → Bool
 | .const _ => true
 | _ => false
def vNilI (E : Env) (op : BinOp) (T : TypeId) (r : Bool) (K : AV → Prop) : Prop := withTy E T fun i => match i.k with
 | .iface _ => (match op with
  | .eql => K (vOk (.bool r))
  | .neq => K (vOk (.bool (!r)))
  | _ => False)
 | _ => False
def vBin (E : Env) (op : BinOp) (T : TypeId) (x y : Operand) : Vop := fun ρ _ K => withV (ρ x) fun a => withV (ρ y) fun b => match a, b with
 | .p (.v (.int k m)), .p (.v (.int k' n)) => match isShift op with
  | true => vshift op k m n fun v => K ⟨some v, [], []⟩
  | false => onB (kbeq k k') <| vbinInt op k m n fun v => K ⟨some v, [], []⟩
 | .p (.v (.string m)), .p (.v (.string n)) => vbinStr op m n fun v => K ⟨some v, [], []⟩
 | .p (.v .nilIface), .p (.v .nilIface) => onB (isCst x || isCst y) <| vNilI E op T true fun v => K ⟨some v, [], []⟩
 | .p (.ifc _ _), .p (.v .nilIface) => vNilI E op T false fun v => K ⟨some v, [], []⟩
 | a, b => match op with
  | .eql => vEq E false T a b fun v => K ⟨some v, [], []⟩
  | .neq => vEq E true T a b fun v => K ⟨some v, [], []⟩
  | _ => False
theorem rep_v {Z : Nat → Prop} {lb : Lb} {w : World} {x u : Value} (h : ARep Z lb w (.p (.v x)) u) : u = x := by
 simp only [ARep, Rep] at h; exact h.1
theorem arep_v {Z : Nat → Prop} {lb : Lb} {w : World} {x : Value} (h : oneB x = true) : ARep Z lb w (vOk x) x := by
 simp only [vOk, ARep, Rep]; exact ⟨trivial, h⟩
def isEq : BinOp → Bool | .eql => true | .neq => true | _ => false
def eqPlain (P : Program) (T : TypeId) : Value → Value → Prop
 | .nilIface, .nilIface => False
 | .agg _, .agg _ => P.eqGuardType P.depth T = false
 | _, _ => True
theorem run_eqGuard_no (P : Program) (op : BinOp) (T : TypeId) (x y : Operand) (a b : Value) (w : World) (h : isEq op = false) : (eqGuard op T x y a b).run P w = .ok () w := by
 cases op <;> first | (exact absurd h (by decide)) | simp [eqGuard]
theorem run_eqGuard_yes (P : Program) (op : BinOp) (T : TypeId) (x y : Operand) (a b : Value) (w : World) (ho : isEq op = true) (h : eqPlain P T a b) : (eqGuard op T x y a b).run P w = .ok () w := by
 have h0 : eqGuard op T x y a b = eqGuard .eql T x y a b := by cases op <;> first | rfl | (exact absurd ho (by decide))
 rw [h0]
 cases a <;> cases b <;> first | (exact h.elim) | (simp only [eqPlain] at h; simp [eqGuard, h]; done) | (simp [eqGuard]; done)
end Go.Ab
namespace Go.Ab
variable [Glob]
theorem run_equalIn_nilr {P : Program} (w : World) (d : Nat) {T e : TypeId} (h : P.underlying T = some (.pointer e)) (q : Option Addr) : (Op.equalIn (d + 1) T (.pointer q) (.pointer none)).run P w = .ok q.isNone w := by
 cases q <;> simp [Op.equalIn, run_underlying h]
theorem run_equalIn_nill {P : Program} (w : World) (d : Nat) {T e : TypeId} (h : P.underlying T = some (.pointer e)) (q : Option Addr) : (Op.equalIn (d + 1) T (.pointer none) (.pointer q)).run P w = .ok q.isNone w := by
 cases q <;> simp [Op.equalIn, run_underlying h]
theorem run_equalIn_slnil {P : Program} (w : World) (d : Nat) {T e : TypeId} (h : P.underlying T = some (.slice e)) (q : Option Addr) (n c n' c' : Nat) : (Op.equalIn (d + 1) T (.slice q n c) (.slice none n' c')).run P w = .ok q.isNone w := by
 cases q <;> simp [Op.equalIn, run_underlying h]
theorem run_equalIn_nn {P : Program} (w : World) (d : Nat) {T : TypeId} {ms : Array (String × TypeId)} (h : P.underlying T = some (.interface ms)) : (Op.equalIn (d + 1) T .nilIface .nilIface).run P w = .ok true w := by
 simp [Op.equalIn, run_underlying h]
theorem run_equalIn_in {P : Program} (w : World) (d : Nat) {T t : TypeId} {v : Value} {ms : Array (String × TypeId)} (h : P.underlying T = some (.interface ms)) : (Op.equalIn (d + 1) T (.iface t v) .nilIface).run P w = .ok false w := by
 simp [Op.equalIn, run_underlying h]
set_option maxHeartbeats 1000000 in
theorem sBin (E : Env) (o : Oper) (op : BinOp) (T yT : TypeId) (x y : Operand) (ho : o.op = .binOp op T x y yT) : Sound E o (vBin E op T x y) := by
 intro ρ ℓ K h0
 obtain ⟨a0, ha, h1⟩ := withV_some h0
 obtain ⟨b0, hb, h⟩ := withV_some h1
 clear h0 h1
 have hxm : x ∈ o.op.operands := by simp [ho, Op.operands]
 have hym : y ∈ o.op.operands := by simp [ho, Op.operands]
 -- one way to finish: the value u is what the operation gives
 have fin : ∀ {v : AV}, K ⟨some v, [], []⟩ → (∀ Z lb (w : World) u1 u2, ARep Z lb w a0 u1 → ARep Z lb w b0 u2 → ∃ u, (∀ (a : Act), a.eval x = u1 → a.eval y = u2 → (eqGuard op T x y u1 u2).run E.P w = .ok () w ∧ (binOp op T u1 u2).run E.P w = .ok u w) ∧ ARep Z lb w v u) →
   ∃ e, K e ∧ ∀ s : ASt, okDst s.n o.dst = true → (∀ x, x ∈ o.op.operands → ev s.t x = ρ x) → (∀ k, k ∈ touch e → s.L[k]? = ℓ k) → OpAt E.P o s e := by
  intro v hK hrun
  refine ⟨_, hK, fun s hd hq ht => opAt_val hd fun Z lb a w hs => ?_⟩
  obtain ⟨u, h1, h2⟩ := hrun Z lb w _ _ (ev_rep hs (find_ev hq hxm ha)) (ev_rep hs (find_ev hq hym hb))
  obtain ⟨g1, g2⟩ := h1 a rfl rfl
  refine ⟨u, ?_, h2⟩
  simp only [execOp, ho, Sem.run_bind, g1, Result.andThen_ok, g2, Sem.run_pure]
 have fv : ∀ {u : Value}, K ⟨some (vOk u), [], []⟩ → oneB u = true → (∀ (w : World) u1 u2, (∀ Z lb, ARep Z lb w a0 u1 → True) → ∀ Z lb, ARep Z lb w a0 u1 → ARep Z lb w b0 u2 → (eqGuard op T x y u1 u2).run E.P w = .ok () w ∧ (binOp op T u1 u2).run E.P w = .ok u w) →
   ∃ e, K e ∧ ∀ s : ASt, okDst s.n o.dst = true → (∀ x, x ∈ o.op.operands → ev s.t x = ρ x) → (∀ k, k ∈ touch e → s.L[k]? = ℓ k) → OpAt E.P o s e := by
  intro u hK h1 hrun
  exact fin hK fun Z lb w u1 u2 r1 r2 => ⟨u, fun _ _ _ => hrun w u1 u2 (fun _ _ _ => trivial) Z lb r1 r2, arep_v h1⟩
 split at h
 ·rename_i k m k' n
  have hg : ∀ (w : World), (eqGuard op T x y (.int k m) (.int k' n)).run E.P w = .ok () w := fun w => by
   cases hi : isEq op with
   | false => exact run_eqGuard_no _ _ _ _ _ _ _ _ hi
   | true => exact run_eqGuard_yes _ _ _ _ _ _ _ _ hi trivial
  have go : ∀ {u : Value}, K ⟨some (vOk u), [], []⟩ → oneB u = true → (∀ (w : World), (binOp op T (.int k m) (.int k' n)).run E.P w = .ok u w) → _ := fun hK h1 hrun =>
   fv hK h1 fun w u1 u2 _ Z lb r1 r2 => by rw [rep_v r1, rep_v r2]; exact ⟨hg w, hrun w⟩
  split at h
  ·rename_i hsh
   cases op <;> first | (exact absurd hsh (by decide)) | skip
   ·obtain ⟨h0, h⟩ := h
    exact go h rfl fun w => by simp only [binOp, Op.shift, if_neg (show ¬ n < 0 by omega), Sem.run_pure]
   ·obtain ⟨h0, h⟩ := h
    exact go h rfl fun w => by simp only [binOp, Op.shift, if_neg (show ¬ n < 0 by omega), Sem.run_pure]
  ·rename_i hsh
   obtain ⟨hk, hh_⟩ := onB_some h; clear h; have h := hh_; clear hh_
   have hk := kbeq_eq hk
   subst hk
   cases op <;> simp only [vbinInt] at h <;> first
    | exact h.elim
    | (exact absurd hsh (by decide))
    | (exact go h rfl fun w => by simp [binOp, Op.intArith, Op.intBits, Op.intCmp])
    | (obtain ⟨h0, h⟩ := h; exact go h rfl fun w => by simp [binOp, Op.intDiv, h0])
 ·rename_i m n
  have hg : ∀ (w : World), (eqGuard op T x y (.string m) (.string n)).run E.P w = .ok () w := fun w => by
   cases hi : isEq op with
   | false => exact run_eqGuard_no _ _ _ _ _ _ _ _ hi
   | true => exact run_eqGuard_yes _ _ _ _ _ _ _ _ hi trivial
  have go : ∀ {u : Value}, K ⟨some (vOk u), [], []⟩ → oneB u = true → (∀ (w : World), (binOp op T (.string m) (.string n)).run E.P w = .ok u w) → _ := fun hK h1 hrun =>
   fv hK h1 fun w u1 u2 _ Z lb r1 r2 => by rw [rep_v r1, rep_v r2]; exact ⟨hg w, hrun w⟩
  cases op <;> simp only [vbinStr] at h <;> first
   | exact h.elim
   | (exact go h rfl fun w => by simp [binOp, Op.stringOp])
   | (obtain ⟨h0, h⟩ := h; exact go h rfl fun w => by simp only [binOp, Op.stringOp, if_neg (show ¬ ((m.size + n.size : Nat) : Int) > IntKind.i64.max by omega), Sem.run_pure])
 ·-- nil against nil
  obtain ⟨hc, hh_⟩ := onB_some h; clear h; have h := hh_; clear hh_
  obtain ⟨i, d, inf, z, hh_, F⟩ := withTy_some h; clear h; have h := hh_; clear hh_
  split at h
  ·rename_i em hk
   obtain ⟨ms, rfl, _⟩ := F.iface hk
   have hg : ∀ (w : World), (eqGuard op T x y .nilIface .nilIface).run E.P w = .ok () w := fun w => by
    cases hi : isEq op with
    | false => exact run_eqGuard_no _ _ _ _ _ _ _ _ hi
    | true =>
     have h0 : eqGuard op T x y .nilIface .nilIface = eqGuard .eql T x y .nilIface .nilIface := by cases op <;> first | rfl | (exact absurd hi (by decide))
     rw [h0]
     rw [Bool.or_eq_true] at hc
     rcases hc with hc | hc
     ·cases x <;> first | (simp [isCst] at hc; done) | simp [eqGuard]
     ·cases y <;> first | (simp [isCst] at hc; done) | simp [eqGuard]
   have he : ∀ (w : World), (Op.equal T .nilIface .nilIface).run E.P w = .ok true w := fun w => run_equalIn_nn w 9999 F.und
   cases op <;> first | exact h.elim | skip
   ·exact fv h rfl fun w u1 u2 _ Z lb r1 r2 => by rw [rep_v r1, rep_v r2]; exact ⟨hg w, by simp [binOp, he w]⟩
   ·exact fv h rfl fun w u1 u2 _ Z lb r1 r2 => by rw [rep_v r1, rep_v r2]; exact ⟨hg w, by simp [binOp, he w]⟩
  ·exact h.elim
 ·-- something against nil
  rename_i tt yy
  obtain ⟨i, d, inf, z, hh_, F⟩ := withTy_some h; clear h; have h := hh_; clear hh_
  split at h
  ·rename_i em hk
   obtain ⟨ms, rfl, _⟩ := F.iface hk
   have he : ∀ (v : Value) (w : World), (Op.equal T (.iface tt v) .nilIface).run E.P w = .ok false w := fun v w => run_equalIn_in w 9999 F.und
   have hgd : ∀ (v : Value) (w : World), (eqGuard op T x y (.iface tt v) .nilIface).run E.P w = .ok () w := fun v w => by
    cases hi : isEq op with
    | false => exact run_eqGuard_no _ _ _ _ _ _ _ _ hi
    | true => exact run_eqGuard_yes _ _ _ _ _ _ _ _ hi trivial
   cases op <;> first | exact h.elim | skip
   ·exact fv h rfl fun w u1 u2 _ Z lb r1 r2 => by
     simp only [ARep, Rep] at r1
     obtain ⟨v, _, rfl⟩ := r1
     rw [rep_v r2]
     exact ⟨hgd v w, by simp [binOp, he v w]⟩
   ·exact fv h rfl fun w u1 u2 _ Z lb r1 r2 => by
     simp only [ARep, Rep] at r1
     obtain ⟨v, _, rfl⟩ := r1
     rw [rep_v r2]
     exact ⟨hgd v w, by simp [binOp, he v w]⟩
  ·exact h.elim
 ·-- == and != on bools, structs, pointers against nil
  have core : ∀ (neg : Bool), isEq op = true → (∀ (w : World) (u1 u2 : Value) (r : Bool), (∀ (k k' : IntKind) (m n : Int), u1 = .int k m → u2 = .int k' n → False) → (∀ m n, u1 = .string m → u2 = .string n → False) →
    (∀ (k k' : FloatKind) (m n : Nat), u1 = .float k m → u2 = .float k' n → False) → (∀ (k k' : FloatKind) (m n p q : Nat), u1 = .complex k m n → u2 = .complex k' p q → False) →
    (Op.equal T u1 u2).run E.P w = .ok r w → (binOp op T u1 u2).run E.P w = .ok (.bool (match neg with | true => !r | false => r)) w) →
    vEq E neg T a0 b0 (fun v => K ⟨some v, [], []⟩) → ∃ e, K e ∧ ∀ s : ASt, okDst s.n o.dst = true → (∀ x, x ∈ o.op.operands → ev s.t x = ρ x) → (∀ k, k ∈ touch e → s.L[k]? = ℓ k) → OpAt E.P o s e := by
   intro neg hio hbin hv
   unfold vEq at hv
   split at hv
   ·rename_i p q hx1_ hx2_ hx3_ hx4_
    obtain ⟨i, d, inf, z, hh_, F⟩ := withTy_some hv; clear hv; have hv := hh_; clear hh_
    split at hv
    ·rename_i hkk
     have := F.bool hkk
     subst this
     refine fv hv rfl fun w u1 u2 _ Z lb r1 r2 => ?_
     rw [rep_v r1, rep_v r2]
     refine ⟨run_eqGuard_yes _ _ _ _ _ _ _ _ hio trivial, hbin w _ _ (p == q) (by simp) (by simp) (by simp) (by simp) ?_⟩
     exact run_equalIn_bool' w 9999 T p q F.und
    ·exact hv.elim
   ·split at hv
    ·rename_i xs ys hxs hys
     obtain ⟨i, d, inf, z, hh_, F⟩ := withTy_some hv; clear hv; have hv := hh_; clear hh_
     obtain ⟨hag, hh_⟩ := onB_some hv; clear hv; have hv := hh_; clear hh_
     obtain ⟨heg, hh_⟩ := onB_some hv; clear hv; have hv := hh_; clear hh_
     split at hv
     ·rename_i xs' ys' hux huy
      split at hv
      ·rename_i r hr
       refine fv hv rfl fun w u1 u2 _ Z lb r1 r2 => ?_
       obtain ⟨vs1, rfl, c1, c2⟩ := aggCells_rep r1 hxs
       obtain ⟨vs2, rfl, c3, c4⟩ := aggCells_rep r2 hys
       have e1 := unV_rep hux c1
       have e2 := unV_rep huy c3
       subst e1; subst e2
       refine ⟨run_eqGuard_yes _ _ _ _ _ _ _ _ hio ?_, hbin w _ _ r (by simp) (by simp) (by simp) (by simp) ?_⟩
       ·simp only [eqPlain]; rw [← F.eqg]; simpa using heg
       ·have hd : aggD d = true := by
         have h1 := F.run_agg w
         rw [run_isAgg_d F.und, hag] at h1
         simpa using h1
        have := (run_eqT E w 10 Op.maxDepth (by decide) T vs1 vs2 r d F.und hr).2
        simpa [hd, wrapT, Op.equal] using this
      ·exact hv.elim
     ·exact hv.elim
    ·have ptrs : ∀ {y : AV} {b : Bool}, isNilPtr y = some b → ∀ {Z : Nat → Prop} {lb : Lb} {w : World} {u : Value}, ARep Z lb w y u → ∃ q, u = .pointer q ∧ q.isNone = b := by
      intro y b hy Z lb w u hr
      unfold isNilPtr at hy
      split at hy <;> simp only [Option.some.injEq, reduceCtorEq] at hy
      ·subst hy; exact ⟨none, rep_v hr, rfl⟩
      ·subst hy; simp only [ARep, Rep] at hr; obtain ⟨vs, b', o', _, _, h3, _⟩ := hr; exact ⟨_, h3, rfl⟩
      ·subst hy; simp only [ARep] at hr; obtain ⟨b', _, h3⟩ := hr; exact ⟨_, h3, rfl⟩
      ·subst hy; simp only [ARep] at hr; obtain ⟨b', _, h3⟩ := hr; exact ⟨_, h3, rfl⟩
     split at hv
     ·rename_i p hp1 hp2
      obtain ⟨i, d, inf, z, hh_, F⟩ := withTy_some hv; clear hv; have hv := hh_; clear hh_
      split at hv
      ·rename_i e hkk
       have := F.ptr hkk
       subst this
       refine fv hv rfl fun w u1 u2 _ Z lb r1 r2 => ?_
       obtain ⟨q1, rfl, e1⟩ := ptrs hp1 r1
       obtain ⟨q2, rfl, e2⟩ := ptrs hp2 r2
       have : q2 = none := by simpa using e2
       subst this
       refine ⟨run_eqGuard_yes _ _ _ _ _ _ _ _ hio trivial, hbin w _ _ p (by simp) (by simp) (by simp) (by simp) ?_⟩
       rw [← e1]
       exact run_equalIn_nilr w 9999 F.und q1
      ·exact hv.elim
     ·rename_i p hp1 hp2
      obtain ⟨hpt, hh_⟩ := onB_some hv; clear hv; have hv := hh_; clear hh_
      subst hpt
      obtain ⟨i, d, inf, z, hh_, F⟩ := withTy_some hv; clear hv; have hv := hh_; clear hh_
      split at hv
      ·rename_i e hkk
       have := F.ptr hkk
       subst this
       refine fv hv rfl fun w u1 u2 _ Z lb r1 r2 => ?_
       obtain ⟨q1, rfl, e1⟩ := ptrs hp1 r1
       obtain ⟨q2, rfl, e2⟩ := ptrs hp2 r2
       have : q1 = none := by simpa using e1
       subst this
       have hneg : neg = (match neg with | true => !false | false => false) := by cases neg <;> rfl
       refine ⟨run_eqGuard_yes _ _ _ _ _ _ _ _ hio trivial, ?_⟩
       rw [hneg]
       have := hbin w (.pointer none) (.pointer q2) false (by simp) (by simp) (by simp) (by simp) (by
        rw [← e2]
        exact run_equalIn_nill w 9999 F.und q2)
       cases neg <;> exact this
      ·exact hv.elim
     ·split at hv
      ·rename_i p hp1 hp2
       obtain ⟨i, d, inf, z, hh_, F⟩ := withTy_some hv; clear hv; have hv := hh_; clear hh_
       have sls : ∀ {y : AV} {b : Bool}, isNilSl y = some b → ∀ {Z : Nat → Prop} {lb : Lb} {w : World} {u : Value}, ARep Z lb w y u → ∃ q n c, u = .slice q n c ∧ q.isNone = b := by
        intro y b hy Z lb w u hr
        unfold isNilSl at hy
        split at hy <;> simp only [Option.some.injEq, reduceCtorEq] at hy
        ·subst hy; exact ⟨none, _, _, rep_v hr, rfl⟩
        ·subst hy; simp only [ARep, Rep] at hr; obtain ⟨vs, a, c, _, h3, _⟩ := hr; exact ⟨_, _, _, h3, rfl⟩
       split at hv
       ·rename_i e esz eb ez hkk
        obtain ⟨rfl, _⟩ := F.slice hkk
        refine fv hv rfl fun w u1 u2 _ Z lb r1 r2 => ?_
        obtain ⟨q1, n1, c1, rfl, e1⟩ := sls hp1 r1
        obtain ⟨q2, n2, c2, rfl, e2⟩ := sls hp2 r2
        have : q2 = none := by simpa using e2
        subst this
        refine ⟨run_eqGuard_yes _ _ _ _ _ _ _ _ hio trivial, hbin w _ _ p (by simp) (by simp) (by simp) (by simp) ?_⟩
        rw [← e1]
        exact run_equalIn_slnil w 9999 F.und q1 _ _ _ _
       ·exact hv.elim
      ·rename_i hp1 hp2
       split at hv
       ·rename_i i0 sz0 st0 n0 _ _ _ _
        obtain ⟨hn0, hv⟩ := hv
        obtain ⟨i, d, inf, z, hh_, F⟩ := withTy_some hv; clear hv; have hv := hh_; clear hh_
        split at hv
        ·rename_i e esz eb ez hkk
         obtain ⟨rfl, _⟩ := F.slice hkk
         refine fv hv rfl fun w u1 u2 _ Z lb r1 r2 => ?_
         have g1 : ∃ q n c, u1 = .slice (some q) n c := by
          simp only [ARep] at r1
          rcases r1 with ⟨_, h2, _⟩ | ⟨b, c, _, h2, _⟩
          ·omega
          ·exact ⟨_, _, _, h2⟩
         obtain ⟨q1, n1, c1, rfl⟩ := g1
         have g2 : ∃ n c, u2 = .slice none n c := by
          unfold isNilSl at hp2
          split at hp2 <;> simp only [Option.some.injEq, reduceCtorEq] at hp2
          exact ⟨_, _, rep_v r2⟩
         obtain ⟨n2, c2, rfl⟩ := g2
         refine ⟨run_eqGuard_yes _ _ _ _ _ _ _ _ hio trivial, ?_⟩
         have := hbin w (.slice (some q1) n1 c1) (.slice none n2 c2) false (by simp) (by simp) (by simp) (by simp) (run_equalIn_slnil w 9999 F.und (some q1) _ _ _ _)
         cases neg <;> exact this
        ·exact hv.elim
       ·exact hv.elim
      ·exact hv.elim
  split at h
  ·refine core false rfl (fun w u1 u2 r n1 n2 n3 n4 he => ?_) h
   cases u1 <;> cases u2 <;> first
    | (exact (n1 _ _ _ _ rfl rfl).elim) | (exact (n2 _ _ rfl rfl).elim) | (exact (n3 _ _ _ _ rfl rfl).elim) | (exact (n4 _ _ _ _ _ _ rfl rfl).elim)
    | (simp only [binOp, Sem.run_bind, he, Result.andThen_ok, Sem.run_pure])
  ·refine core true rfl (fun w u1 u2 r n1 n2 n3 n4 he => ?_) h
   cases u1 <;> cases u2 <;> first
    | (exact (n1 _ _ _ _ rfl rfl).elim) | (exact (n2 _ _ rfl rfl).elim) | (exact (n3 _ _ _ _ rfl rfl).elim) | (exact (n4 _ _ _ _ _ _ rfl rfl).elim)
    | (simp only [binOp, Sem.run_bind, he, Result.andThen_ok, Sem.run_pure])
  ·exact h.elim
def vUn (op : UnOp) (x : Operand) : Vop := fun ρ _ K => withV (ρ x) fun a => match op, a with
 | .not, .p (.v (.bool b)) => K ⟨some (vOk (.bool (!b))), [], []⟩
 | .neg, .p (.v (.int k n)) => K ⟨some (vOk (.int k (k.wrap (0 - n)))), [], []⟩
 | .xor, .p (.v (.int k n)) => K ⟨some (vOk (.int k (k.wrap (BitVec.ofInt k.bits (if k.signed then -1 else k.max) ^^^ BitVec.ofInt k.bits n).toNat))), [], []⟩
 | _, _ => False
theorem sUn (E : Env) (o : Oper) (op : UnOp) (T : TypeId) (x : Operand) (ho : o.op = .unOp op T x) : Sound E o (vUn op x) := by
 intro ρ ℓ K h0
 obtain ⟨a0, ha, h⟩ := withV_some h0
 clear h0
 have hxm : x ∈ o.op.operands := by simp [ho, Op.operands]
 have go : ∀ {u u0 : Value}, a0 = .p (.v u0) → K ⟨some (vOk u), [], []⟩ → oneB u = true → (∀ (w : World), (Op.unary op u0).run E.P w = .ok u w) →
   ∃ e, K e ∧ ∀ s : ASt, okDst s.n o.dst = true → (∀ x, x ∈ o.op.operands → ev s.t x = ρ x) → (∀ k, k ∈ touch e → s.L[k]? = ℓ k) → OpAt E.P o s e := by
  intro u u0 he hK h1 hrun
  subst he
  refine ⟨_, hK, fun s hd hq ht => opAt_val hd fun Z lb a w hs => ⟨u, ?_, arep_v h1⟩⟩
  simp only [execOp, ho, rep_v (ev_rep hs (find_ev hq hxm ha)), Sem.run_bind, hrun w, Result.andThen_ok, Sem.run_pure]
 split at h
 ·exact go rfl h rfl fun w => by simp [Op.unary]
 ·exact go rfl h rfl fun w => by simp [Op.unary, Op.intArith]
 ·exact go rfl h rfl fun w => by simp [Op.unary, Op.intBits]
 ·exact h.elim
def vConv (E : Env) (src dst : TypeId) (x : Operand) : Vop := fun ρ _ K => withTy E src fun _ => withTy E dst fun j => withV (ρ x) fun a => match j.k, a with
 | .int k, .p (.v (.int _ n)) => K ⟨some (vOk (.int k (k.wrap n))), [], []⟩
 | .str, .p (.v (.string s)) => K ⟨some (vOk (.string s)), [], []⟩
 | _, _ => False
theorem sConv (E : Env) (o : Oper) (src dst : TypeId) (x : Operand) (ho : o.op = .convert src dst x) : Sound E o (vConv E src dst x) := by
 intro ρ ℓ K h0
 obtain ⟨i1, d1, inf1, z1, h1, F1⟩ := withTy_some h0
 obtain ⟨j, d2, inf2, z2, h2, F2⟩ := withTy_some h1
 obtain ⟨a0, ha, h⟩ := withV_some h2
 clear h0 h1 h2
 have hxm : x ∈ o.op.operands := by simp [ho, Op.operands]
 split at h
 ·rename_i k k0 n hk
  have := F2.int hk
  subst this
  refine ⟨_, h, fun s hd hq ht => opAt_val hd fun Z lb a w hs => ⟨.int k (k.wrap n), ?_, arep_v rfl⟩⟩
  simp only [execOp, ho, rep_v (ev_rep hs (find_ev hq hxm ha)), convert, Sem.run_bind, F1.run_und, F2.run_und, Result.andThen_ok, Conv.intToInt, Sem.run_pure]
 ·rename_i bs hk
  have := F2.str hk
  subst this
  refine ⟨_, h, fun s hd hq ht => opAt_val hd fun Z lb a w hs => ⟨.string bs, ?_, arep_v rfl⟩⟩
  simp only [execOp, ho, rep_v (ev_rep hs (find_ev hq hxm ha)), convert, Sem.run_bind, F1.run_und, F2.run_und, Result.andThen_ok, Sem.run_pure]
 ·exact h.elim
end Go.Ab
namespace Go.Ab
variable [Glob]
def optI (ρ : Operand → Option AV) : Option Operand → Option (Option Int)
 | none => some none
 | some x => match ρ x with
  | some (.p (.v (.int _ n))) => some (some n)
  | _ => none
def zeroO : Option Int → Prop
 | none => True
 | some n => n = 0
def vSlice (E : Env) (T : TypeId) (x : Operand) (lo hi : Option Operand) : Vop := fun ρ _ K => withTy E T fun i => withV (ρ x) fun y => match i.k, y with
 | .str, .p (.v (.string s)) => (match optI ρ lo, optI ρ hi with
  | some none, some none => K ⟨some (vOk (.string s)), [], []⟩
  | some (some l), some none => (0 ≤ l ∧ l ≤ s.size) ∧ K ⟨some (vOk (.string (s.extract l.toNat s.size))), [], []⟩
  | some none, some (some h) => (0 ≤ h ∧ h ≤ s.size) ∧ K ⟨some (vOk (.string (s.extract 0 h.toNat))), [], []⟩
  | some (some l), some (some h) => (0 ≤ l ∧ l ≤ h ∧ h ≤ s.size) ∧ K ⟨some (vOk (.string (s.extract l.toNat h.toNat))), [], []⟩
  | _, _ => False)
 | .slice _ esz _ _, .p (.view sz es) => Nat.beq sz esz = true ∧ (match optI ρ lo, optI ρ hi with
  | some none, some none => K ⟨some (.p (.view sz es)), [], []⟩
  | some (some l), some none => (0 ≤ l ∧ l ≤ es.length) ∧ K ⟨some (.p (.view sz (es.drop l.toNat))), [], []⟩
  | some none, some (some h) => (0 ≤ h ∧ h ≤ es.length) ∧ K ⟨some (.p (.view sz (es.take h.toNat))), [], []⟩
  | some (some l), some (some h) => (0 ≤ l ∧ l ≤ h ∧ h ≤ es.length) ∧ K ⟨some (.p (.view sz ((es.take h.toNat).drop l.toNat))), [], []⟩
  | _, _ => False)
 | .slice _ esz _ _, .sl k sz st n => Nat.beq sz esz = true ∧ (match optI ρ lo, optI ρ hi with
  | some none, some (some h) => (0 ≤ h ∧ h ≤ n) ∧ K ⟨some (.sl k sz st h.toNat), [], []⟩
  | some (some l), some none => (0 ≤ l ∧ l ≤ n ∧ 0 < sz) ∧ fork (decide (l = n)) (K ⟨some (.p (.view sz [])), [], []⟩) (K ⟨some (.sl k sz (st + l.toNat) (n - l.toNat)), [], []⟩)
  | _, _ => False)
 | .slice _ _ _ _, .p (.v (.slice none 0 0)) => (match optI ρ lo, optI ρ hi with
  | some l, some h => (zeroO l ∧ zeroO h) ∧ K ⟨some (.p (.v (.slice none 0 0))), [], []⟩
  | _, _ => False)
 | _, _ => False
theorem optI_rep {Z : Nat → Prop} {lb : Lb} {s : ASt} {a : Act} {w : World} {ρ : Operand → Option AV} (hs : St Z lb s a w) {o : Option Operand} {r : Option Int} (hq : ∀ x, o = some x → ev s.t x = ρ x) (h : optI ρ o = some r) :
  (o.map a.eval = none ∧ r = none) ∨ ∃ k n, o.map a.eval = some (.int k n) ∧ r = some n := by
 cases o with
 | none => simp only [optI, Option.some.injEq] at h; subst h; exact .inl ⟨rfl, rfl⟩
 | some x =>
  simp only [optI] at h
  split at h
  ·rename_i k n hx
   simp only [Option.some.injEq] at h
   subst h
   refine .inr ⟨k, n, ?_, rfl⟩
   have := rep_v (ev_rep hs ((hq x rfl).trans hx))
   simp [this]
  ·simp at h
theorem run_bound {P : Program} {w : World} {k : IntKind} {n : Int} {y : Nat} {c : BoundsCode} (h0 : 0 ≤ n) (h1 : n ≤ y) : (Instr.sliceBound (.int k n) y c).run P w = .ok n.toNat w := by
 simp [Instr.sliceBound, asIntOf, h0, h1]
theorem run_bounds {P : Program} {w : World} {isS : Bool} {len cap : Nat} {lo hi : Option Value} {l h : Nat} (hle : len ≤ cap)
  (hh : (hi = none ∧ h = len) ∨ ∃ (k : IntKind) (n : Int), hi = some (.int k n) ∧ 0 ≤ n ∧ n ≤ cap ∧ h = n.toNat)
  (hl : (lo = none ∧ l = 0) ∨ ∃ (k : IntKind) (n : Int), lo = some (.int k n) ∧ 0 ≤ n ∧ n ≤ h ∧ l = n.toNat) :
  (Instr.sliceBounds isS len cap lo hi none).run P w = .ok (l, h, cap) w := by
 unfold Instr.sliceBounds
 rcases hh with ⟨rfl, rfl⟩ | ⟨k, n, rfl, h0, h1, rfl⟩
 ·rcases hl with ⟨rfl, rfl⟩ | ⟨k, n, rfl, h0, h1, rfl⟩
  ·simp
  ·simp [run_bound h0 h1]
 ·rcases hl with ⟨rfl, rfl⟩ | ⟨k', n', rfl, h0', h1', rfl⟩
  ·simp [run_bound h0 h1]
  ·have : n' ≤ ((n.toNat : Nat) : Int) := h1'
   simp [run_bound h0 h1, run_bound h0' this]
theorem sliceAt_sub {Z : Nat → Prop} {w : World} {sz : Nat} {vs : List Value} {base : Option Addr} {cap l h : Nat} (hl : l ≤ h) (hh : h ≤ vs.length) (hs : SliceAt Z w sz vs base vs.length cap) :
  SliceAt Z w sz ((vs.take h).drop l) (if cap = l then base else base.map (·.add (l * sz))) (h - l) (cap - l) := by
 cases base with
 | none =>
  obtain ⟨h1, h2⟩ := hs
  have : l = 0 := by omega
  subst this
  have : h = 0 := by omega
  subst this
  simp [SliceAt, h2]
 | some ad =>
  obtain ⟨h1, h2⟩ := hs
  split
  ·rename_i hc
   exact ⟨by omega, .inl (by omega)⟩
  ·refine ⟨by omega, ?_⟩
   rcases h2 with h2 | ⟨g1, g2, g3⟩
   ·exact .inl (by omega)
   ·refine .inr ?_
    obtain ⟨ab, ao, asp⟩ := ad
    simp only at g1 g2 g3
    subst g1
    simp only [addr_add]
    refine ⟨trivial, g2, fun k u hu => ?_⟩
    rw [List.getElem?_drop] at hu
    have hlt : l + k < (vs.take h).length := by
     rcases Nat.lt_or_ge (l + k) (vs.take h).length with h' | h'
     ·exact h'
     ·simp [List.getElem?_eq_none h'] at hu
    rw [List.getElem?_take_of_lt (by simp at hlt; omega)] at hu
    have := g3 (l + k) u hu
    rw [Nat.add_mul, ← Nat.add_assoc] at this
    exact this
def loV : Option Int → Nat | some n => n.toNat | none => 0
def hiV (len : Nat) : Option Int → Nat | some n => n.toNat | none => len
def hiI (len : Nat) : Option Int → Int | some n => n | none => len
theorem sSlice (E : Env) (o : Oper) (T : TypeId) (x : Operand) (lo hi : Option Operand) (ho : o.op = .slice T x lo hi none) : Sound E o (vSlice E T x lo hi) := by
 intro ρ ℓ K h0
 obtain ⟨i, d, inf, z, h1, F⟩ := withTy_some h0
 obtain ⟨y, hy, h⟩ := withV_some h1
 clear h0 h1
 have hxm : x ∈ o.op.operands := by simp [ho, Op.operands]
 have hlm : ∀ q, lo = some q → q ∈ o.op.operands := fun q hq => by subst hq; simp [ho, Op.operands]
 have hhm : ∀ q, hi = some q → q ∈ o.op.operands := fun q hq => by subst hq; simp [ho, Op.operands]
 -- the two bounds, at any state that fits
 have bnd : ∀ {rl rh : Option Int}, optI ρ lo = some rl → optI ρ hi = some rh → ∀ {Z : Nat → Prop} {lb : Lb} {s : ASt} {a : Act} {w : World} (isS : Bool) (len cap : Nat), St Z lb s a w → (∀ q, q ∈ o.op.operands → ev s.t q = ρ q) → len ≤ cap →
   (∀ n, rh = some n → 0 ≤ n ∧ n ≤ len) → (∀ n, rl = some n → 0 ≤ n ∧ n ≤ (hiI len rh)) →
   (Instr.sliceBounds isS len cap (lo.map a.eval) (hi.map a.eval) none).run E.P w = .ok ((loV rl), (hiV len rh), cap) w := by
  intro rl rh e1 e2 Z lb s a w isS len cap hs hq hle c1 c2
  have g1 := optI_rep hs (fun q hh => hq q (hlm q hh)) e1
  have g2 := optI_rep hs (fun q hh => hq q (hhm q hh)) e2
  refine run_bounds hle ?_ ?_
  ·rcases g2 with ⟨a1, rfl⟩ | ⟨k, n, a1, rfl⟩
   ·exact .inl ⟨a1, rfl⟩
   ·exact .inr ⟨k, n, a1, (c1 n rfl).1, by have := (c1 n rfl).2; omega, rfl⟩
  ·rcases g1 with ⟨a1, rfl⟩ | ⟨k, n, a1, rfl⟩
   ·exact .inl ⟨a1, rfl⟩
   ·refine .inr ⟨k, n, a1, (c2 n rfl).1, ?_, rfl⟩
    have := (c2 n rfl).2
    cases rh with
    | none => exact this
    | some m => simp only [hiI, hiV] at this ⊢; have := (c1 m rfl).1; omega
 split at h
 ·rename_i bs hk
  have := F.str hk
  subst this
  have go : ∀ {rl rh : Option Int}, optI ρ lo = some rl → optI ρ hi = some rh → (∀ n, rh = some n → 0 ≤ n ∧ n ≤ bs.size) → (∀ n, rl = some n → 0 ≤ n ∧ n ≤ (hiI bs.size rh)) →
    K ⟨some (vOk (.string (bs.extract (loV rl) (hiV bs.size rh)))), [], []⟩ →
    ∃ e, K e ∧ ∀ s : ASt, okDst s.n o.dst = true → (∀ x, x ∈ o.op.operands → ev s.t x = ρ x) → (∀ k, k ∈ touch e → s.L[k]? = ℓ k) → OpAt E.P o s e := by
   intro rl rh e1 e2 c1 c2 hK
   refine ⟨_, hK, fun s hd hq ht => opAt_val hd fun Z lb a w hs => ⟨_, ?_, arep_v rfl⟩⟩
   have hb := bnd e1 e2 (w := w) false bs.size bs.size hs hq (Nat.le_refl _) c1 c2
   simp only [execOp, ho, rep_v (ev_rep hs (find_ev hq hxm hy)), Instr.sliceAt, Instr.slice, Sem.run_bind, F.run_und, Result.andThen_ok, Option.map_none, Option.isSome_none, Bool.false_eq_true, if_false, Sem.run_pure, hb]
  split at h
  ·rename_i e1 e2
   refine go e1 e2 (by simp) (by simp) ?_
   simpa [loV, hiV] using h
  ·rename_i l e1 e2
   exact go e1 e2 (by simp) (by intro n hn; simp at hn; subst hn; exact h.1) h.2
  ·rename_i m e1 e2
   exact go e1 e2 (by intro n hn; simp at hn; subst hn; exact h.1) (by simp) h.2
  ·rename_i l m e1 e2
   exact go e1 e2 (by intro n hn; simp at hn; subst hn; omega) (by intro n hn; simp at hn; subst hn; exact ⟨h.1.1, h.1.2.1⟩) h.2
  ·exact h.elim
 ·rename_i e' esz eb ez sz es hk
  obtain ⟨hsz, h⟩ := h
  have hsz := Nat.eq_of_beq_eq_true hsz
  subst hsz
  obtain ⟨rfl, j, zz, i1, i2, i3, i4, i5⟩ := F.slice hk
  have go : ∀ {rl rh : Option Int}, optI ρ lo = some rl → optI ρ hi = some rh → (∀ n, rh = some n → 0 ≤ n ∧ n ≤ es.length) → (∀ n, rl = some n → 0 ≤ n ∧ n ≤ (hiI es.length rh)) →
    K ⟨some (.p (.view sz ((es.take (hiV es.length rh)).drop (loV rl)))), [], []⟩ →
    ∃ e, K e ∧ ∀ s : ASt, okDst s.n o.dst = true → (∀ x, x ∈ o.op.operands → ev s.t x = ρ x) → (∀ k, k ∈ touch e → s.L[k]? = ℓ k) → OpAt E.P o s e := by
   intro rl rh e1 e2 c1 c2 hK
   refine ⟨_, hK, fun s hd hq ht => opAt_val hd fun Z lb a w hs => ?_⟩
   have hr := ev_rep hs (find_ev hq hxm hy)
   simp only [ARep, Rep] at hr
   obtain ⟨vs, base, cap, g1, hu, g3, g4, g5, g6⟩ := hr
   have hlen := g1.length
   have hle : vs.length ≤ cap := by
    cases base with
    | none => have := g6; simp only [SliceAt] at this; omega
    | some ad => exact g6.1
   have hb := bnd e1 e2 (w := w) true vs.length cap hs hq hle (by rw [hlen]; exact c1) (by rw [hlen]; exact c2)
   have hszr : (sizeOf e').run E.P w = .ok sz w := by unfold sizeOf; simp [run_typeInfo w i1, i3]
   have lh : (loV rl) ≤ (hiV es.length rh) := by
    cases rl with
    | none => exact Nat.zero_le _
    | some n =>
     have := c2 n rfl
     cases rh with
     | none => simp only [loV, hiI, hiV] at this ⊢; omega
     | some m => simp only [loV, hiI, hiV] at this ⊢; have := (c1 m rfl).1; omega
   have hh : (hiV es.length rh) ≤ es.length := by
    cases rh with
    | none => exact Nat.le_refl _
    | some m => simp only [hiV]; have := c1 m rfl; omega
   rw [hlen] at hb
   refine ⟨_, by simp only [execOp, ho, hu, Instr.sliceAt, Instr.slice, Sem.run_bind, F.run_und, Result.andThen_ok, Option.map_none, hlen, hb, hszr, Sem.run_pure]; rfl, ?_⟩
   have hsub := sliceAt_sub lh (by omega) g6
   have hl2 : ((vs.take (hiV es.length rh)).drop (loV rl)).length = (hiV es.length rh) - (loV rl) := by
    rw [List.length_drop, List.length_take]; omega
   simp only [ARep, Rep]
   refine ⟨_, (if cap = loV rl then base else base.map (·.add (loV rl * sz))), (cap - loV rl), (g1.take _).drop _, ?_, g3, fun q hq' => g4 q (List.mem_of_mem_take (List.mem_of_mem_drop hq')), by rw [hl2]; omega, ?_⟩
   ·rw [hl2]
   ·rw [hl2]; exact hsub
  split at h
  ·rename_i e1 e2
   refine go e1 e2 (by simp) (by simp) ?_
   simpa [loV, hiV] using h
  ·rename_i l e1 e2
   refine go e1 e2 (by simp) (by intro n hn; simp at hn; subst hn; exact h.1) ?_
   simpa [loV, hiV] using h.2
  ·rename_i m e1 e2
   refine go e1 e2 (by intro n hn; simp at hn; subst hn; exact h.1) (by simp) ?_
   simpa [loV, hiV] using h.2
  ·rename_i l m e1 e2
   exact go e1 e2 (by intro n hn; simp at hn; subst hn; omega) (by intro n hn; simp at hn; subst hn; exact ⟨h.1.1, h.1.2.1⟩) h.2
  ·exact h.elim
 ·rename_i e' esz eb ez k sz st n hk
  obtain ⟨hsz, h⟩ := h
  have hsz := Nat.eq_of_beq_eq_true hsz
  subst hsz
  obtain ⟨rfl, j, zz, i1, i2, i3, i4, i5⟩ := F.slice hk
  split at h
  ·rename_i m e1 e2
   obtain ⟨⟨h0, h1⟩, h⟩ := h
   refine ⟨_, h, fun s hd hq ht => opAt_val hd fun Z lb a w hs => ?_⟩
   have hr := ev_rep hs (find_ev hq hxm hy)
   have hszr : (sizeOf e').run E.P w = .ok sz w := by unfold sizeOf; simp [run_typeInfo w i1, i3]
   simp only [ARep] at hr ⊢
   rcases hr with ⟨a1, a2, a3, hu⟩ | ⟨b, cap, a1, hu, a3, a4⟩
   ·subst a1 a2
    have hb := bnd e1 e2 (w := w) true 0 0 hs hq (Nat.le_refl _) (by intro n hn; simp at hn; subst hn; omega) (by simp)
    refine ⟨_, by simp only [execOp, ho, hu, Instr.sliceAt, Instr.slice, Sem.run_bind, F.run_und, Result.andThen_ok, Option.map_none, hb, hszr, Sem.run_pure]; rfl, .inl ⟨rfl, by omega, a3, ?_⟩⟩
    have : m.toNat = 0 := by omega
    simp [this, loV, hiV]
   ·have hb := bnd e1 e2 (w := w) true n cap hs hq a3 (by intro n hn; simp at hn; subst hn; omega) (by simp)
    refine ⟨_, by simp only [execOp, ho, hu, Instr.sliceAt, Instr.slice, Sem.run_bind, F.run_und, Result.andThen_ok, Option.map_none, hb, hszr, Sem.run_pure]; rfl, .inr ⟨b, cap, a1, ?_, by omega, a4⟩⟩
    simp [addr_add, loV, hiV]
  ·rename_i l e1 e2
   obtain ⟨⟨h0, h1, hz⟩, h⟩ := h
   by_cases hln : l = n
   ·have hK : K ⟨some (.p (.view sz [])), [], []⟩ := by
     have := h.run
     rw [decide_eq_true hln] at this; exact this
    refine ⟨_, hK, fun s hd hq ht => opAt_val hd fun Z lb a w hs => ?_⟩
    have hr := ev_rep hs (find_ev hq hxm hy)
    have hszr : (sizeOf e').run E.P w = .ok sz w := by unfold sizeOf; simp [run_typeInfo w i1, i3]
    simp only [ARep] at hr ⊢
    have hl0 : l.toNat = n := by omega
    rcases hr with ⟨a1, a2, a3, hu⟩ | ⟨b, cap, a1, hu, a3, a4⟩
    ·subst a2
     have hb := bnd e1 e2 (w := w) true 0 0 hs hq (Nat.le_refl _) (by simp) (by intro m hm; simp at hm; subst hm; simp only [hiI]; omega)
     refine ⟨.slice none 0 0, by simp only [execOp, ho, hu, Instr.sliceAt, Instr.slice, Sem.run_bind, F.run_und, Result.andThen_ok, Option.map_none, hb, hszr, Sem.run_pure]; simp [loV, hiV, hl0], ?_⟩
     exact ⟨[], none, 0, rfl, rfl, hz, by simp, by simp, rfl, rfl⟩
    ·have hb := bnd e1 e2 (w := w) true n cap hs hq a3 (by simp) (by intro m hm; simp at hm; subst hm; simp only [hiI]; omega)
     refine ⟨.slice (if cap = n then some ⟨b, st * sz, none⟩ else some ⟨b, st * sz + n * sz, none⟩) 0 (cap - n), by simp only [execOp, ho, hu, Instr.sliceAt, Instr.slice, Sem.run_bind, F.run_und, Result.andThen_ok, Option.map_none, hb, hszr, Sem.run_pure]; simp [loV, hiV, hl0, addr_add], ?_⟩
     exact ⟨[], _, cap - n, rfl, rfl, hz, by simp, by simp, by split <;> exact ⟨Nat.zero_le _, .inl rfl⟩⟩
   ·have hK : K ⟨some (.sl k sz (st + l.toNat) (n - l.toNat)), [], []⟩ := by
     have := h.run
     rw [decide_eq_false hln] at this; exact this
    have h1 : l < n := by omega
    refine ⟨_, hK, fun s hd hq ht => opAt_val hd fun Z lb a w hs => ?_⟩
    have hr := ev_rep hs (find_ev hq hxm hy)
    have hszr : (sizeOf e').run E.P w = .ok sz w := by unfold sizeOf; simp [run_typeInfo w i1, i3]
    simp only [ARep] at hr ⊢
    rcases hr with ⟨a1, a2, a3, hu⟩ | ⟨b, cap, a1, hu, a3, a4⟩
    ·omega
    ·have hb := bnd e1 e2 (w := w) true n cap hs hq a3 (by simp) (by intro m hm; simp at hm; subst hm; simp only [hiI]; omega)
     refine ⟨_, by simp only [execOp, ho, hu, Instr.sliceAt, Instr.slice, Sem.run_bind, F.run_und, Result.andThen_ok, Option.map_none, hb, hszr, Sem.run_pure]; rfl, .inr ⟨b, cap - l.toNat, a1, ?_, by omega, ?_⟩⟩
     ·have hne : ¬ cap = l.toNat := by omega
      simp [addr_add, loV, hiV, hne, Nat.add_mul]
     ·rw [show st + l.toNat + (cap - l.toNat) = st + cap by omega]; exact a4
  ·exact h.elim
 ·rename_i e' esz eb ez hk
  obtain ⟨rfl, j, zz, i1, i2, i3, i4, i5⟩ := F.slice hk
  split at h
  ·rename_i l m e1 e2
   obtain ⟨⟨h0, h1⟩, h⟩ := h
   refine ⟨_, h, fun s hd hq ht => opAt_val hd fun Z lb a w hs => ⟨.slice none 0 0, ?_, arep_v rfl⟩⟩
   have hszr : (sizeOf e').run E.P w = .ok esz w := by unfold sizeOf; simp [run_typeInfo w i1, i3]
   have hb := bnd e1 e2 (w := w) true 0 0 hs hq (Nat.le_refl _) (by intro n hn; subst hn; simp only [zeroO] at h1; omega) (by
    intro n hn; subst hn; simp only [zeroO] at h0
    cases m with
    | none => simp only [hiI]; omega
    | some m => simp only [zeroO] at h1; simp only [hiI]; omega)
   have l0 : loV l = 0 := by cases l with
    | none => rfl
    | some n => simp only [zeroO] at h0; simp [loV, h0]
   have m0 : hiV 0 m = 0 := by cases m with
    | none => rfl
    | some n => simp only [zeroO] at h1; simp [hiV, h1]
   rw [l0, m0] at hb
   simp only [execOp, ho, rep_v (ev_rep hs (find_ev hq hxm hy)), Instr.sliceAt, Instr.slice, Sem.run_bind, F.run_und, Result.andThen_ok, Option.map_none, hb, hszr, Sem.run_pure]
   rfl
  ·exact h.elim
 ·exact h.elim
def toPs : List AV → Option (List PV) := unp
def vMakeFunc (f : Fn) (first captured : List Operand) : Vop := fun ρ _ K => match f, first with
 | .func g, [] => withC (captured.foldr (fun x r => match ρ x, r with | some y, some l => some (y :: l) | _, _ => none) (some [])) fun cs => match unp cs with
  | some ps => K ⟨some (.p (.fn g ps)), [], []⟩
  | none => K ⟨some (.fn g cs), [], []⟩
 | _, _ => False
theorem evs_rep {Z : Nat → Prop} {lb : Lb} {s : ASt} {a : Act} {w : World} {ρ : Operand → Option AV} (hs : St Z lb s a w) : ∀ {l : List Operand} {cs : List AV}, (∀ x, x ∈ l → ev s.t x = ρ x) →
  l.foldr (fun x r => match ρ x, r with | some y, some l => some (y :: l) | _, _ => none) (some []) = some cs → AReps Z lb w cs (l.map a.eval)
 | [], cs, _, h => by simp at h; subst h; rfl
 | x :: l, cs, hq, h => by
  simp only [List.foldr_cons] at h
  split at h
  ·rename_i y l' hy hl
   simp only [Option.some.injEq] at h
   subst h
   simp only [List.map_cons, AReps]
   exact ⟨_, _, rfl, ev_rep hs ((hq x List.mem_cons_self).trans hy), evs_rep hs (fun z hz => hq z (List.mem_cons_of_mem _ hz)) hl⟩
  ·simp at h
theorem sMakeFunc (E : Env) (o : Oper) (f : Fn) (first captured : Array Operand) (ho : o.op = .makeFunc f first captured) : Sound E o (vMakeFunc f first.toList captured.toList) := by
 intro ρ ℓ K h
 unfold vMakeFunc at h
 split at h
 ·rename_i g hf
  have hfirst : first = #[] := by cases first; simp_all
  obtain ⟨cs, hcs, hh_⟩ := withC_some h; clear h; have h := hh_; clear hh_
  have hev : ∀ {Z : Nat → Prop} {lb : Lb} {s : ASt} {a : Act} {w : World}, St Z lb s a w → (∀ q, q ∈ o.op.operands → ev s.t q = ρ q) → AReps Z lb w cs (captured.toList.map a.eval) := fun hs hq =>
   evs_rep hs (fun x hx => hq x (by simp only [ho, Op.operands]; simp; exact .inr (Array.mem_toList_iff.1 hx))) hcs
  have hrun : ∀ {a : Act} {w : World}, (execOp a.eval o).run E.P w = .ok (.value (.func (.func g) #[] (captured.toList.map a.eval).toArray)) w := by
   intro a w
   have : (captured.map a.eval) = (captured.toList.map a.eval).toArray := by apply Array.ext'; simp
   simp only [execOp, ho, Instr.makeFunc, Sem.run_bind, Sem.run_pure, Result.andThen_ok, this, hfirst, Array.map_empty]
  split at h
  ·rename_i ps hps
   refine ⟨_, h, fun s hd hq ht => opAt_val hd fun Z lb a w hs => ⟨_, hrun, ?_⟩⟩
   have := hev hs hq
   rw [unp_some _ _ hps, areps_p] at this
   simp only [ARep, Rep]
   exact ⟨_, this, rfl⟩
  ·refine ⟨_, h, fun s hd hq ht => opAt_val hd fun Z lb a w hs => ⟨_, hrun, ?_⟩⟩
   simp only [ARep]
   exact ⟨_, hev hs hq, rfl⟩
 ·exact h.elim
def vSliceA (E : Env) (T : TypeId) (x : Operand) (lo hi : Option Operand) : Vop := fun ρ ℓ K => match ρ x, lo with
 | some (.loc k 0), none => withTy E T fun i => match i.k, ℓ k, optI ρ hi with
  | .arr m _ esz _, some (some (.arr sz es)), some (some h) => (Nat.beq sz esz = true ∧ (0 ≤ h ∧ h ≤ m) ∧ es.length = m) ∧ K ⟨some (.sl k sz 0 h.toNat), [k], []⟩
  | _, _, _ => False
 | _, _ => vSlice E T x lo hi ρ ℓ K
theorem sSliceA (E : Env) (o : Oper) (T : TypeId) (x : Operand) (lo hi : Option Operand) (ho : o.op = .slice T x lo hi none) : Sound E o (vSliceA E T x lo hi) := by
 intro ρ ℓ K h
 unfold vSliceA at h
 split at h
 ·rename_i k hρ
  obtain ⟨i, d, inf, z, h, F⟩ := withTy_some h
  split at h
  ·rename_i m e esz ea sz es n hk hob e2
   obtain ⟨⟨hb, hh0, hl⟩, h⟩ := h
   obtain rfl := Nat.eq_of_beq_eq_true hb
   obtain ⟨rfl, j, dd, j1, j2, j3, j4⟩ := F.arr hk
   have hxm : x ∈ o.op.operands := by simp [ho, Op.operands]
   have hhm : ∀ q, hi = some q → q ∈ o.op.operands := fun q hq => by subst hq; simp [ho, Op.operands]
   refine ⟨_, h, fun s hd hq ht => opAt_val hd fun Z lb a w hs => ?_⟩
   have hr := ev_rep hs (find_ev hq hxm hρ)
   have hk2 : s.L[k]? = some (some (.arr sz es)) := (ht k (by simp [touch])).trans hob
   simp only [ARep] at hr ⊢
   obtain ⟨b, hb, hu⟩ := hr
   obtain ⟨vs, arr, ty, fr, g1, g2, g3, g4, g5, g6, g7, g8⟩ := obj_arr hs.own hk2 hb
   have hlen := g1.length
   have hp1 := F.und
   have g3' := optI_rep hs (fun q hh => hq q (hhm q hh)) e2
   obtain ⟨kk, n', q1, q2⟩ : ∃ kk n', hi.map a.eval = some (.int kk n') ∧ some n = some n' := by
    rcases g3' with ⟨_, h2⟩ | h2
    ·cases h2
    ·exact h2
   simp only [Option.some.injEq] at q2
   subst q2
   have hel : E.P.elem T = e := by simp [Program.elem, hp1]
   have hal : E.P.arrayLen T = m := by simp [Program.arrayLen, hp1]
   have hszr : (sizeOf e).run E.P w = .ok sz w := by unfold sizeOf; simp [run_typeInfo w j1, j3]
   have hrun := Go.run_sliceAt_array_h (P := E.P) w T ⟨b, 0, none⟩ (by rw [hal, hel]; exact hp1) kk n hh0.1 (by rw [hal]; exact hh0.2)
   rw [hel, hszr, hal] at hrun
   refine ⟨_, ?_, .inr ⟨b, m, hb, rfl, by omega, ?_⟩⟩
   ·simp only [execOp, ho, hu, q1, Sem.run_bind, Option.map_none, Sem.run_pure, hrun, Result.andThen_ok, slicedAt]
    simp [Addr.add]
   ·have e : vs.length = m := by omega
    simp only [bsize, g4]; rw [Nat.zero_add, ← e]; exact g8
  ·exact h.elim
 ·exact sSlice E o T x _ hi ho ρ ℓ K h
end Go.Ab
namespace Go.Ab
variable [Glob]
def flat (us : List Value) : List Value := us.flatMap vcells
theorem flat_cons (u : Value) (us : List Value) : flat (u :: us) = vcells u ++ flat us := rfl
theorem flat_append (us vs : List Value) : flat (us ++ vs) = flat us ++ flat vs := by simp [flat]
theorem flat_length {sz : Nat} : ∀ {us : List Value}, (∀ x, x ∈ us → (vcells x).length = sz) → (flat us).length = us.length * sz
 | [], _ => by simp [flat]
 | u :: us, h => by
  rw [flat_cons, List.length_append, h u List.mem_cons_self, flat_length fun x hx => h x (List.mem_cons_of_mem _ hx), List.length_cons, Nat.succ_mul, Nat.add_comm]
theorem flat_at {sz : Nat} : ∀ {us : List Value}, (∀ x, x ∈ us → (vcells x).length = sz) → ∀ (k : Nat) u, us[k]? = some u → ∀ (j : Nat) c, (vcells u)[j]? = some c → (flat us)[k * sz + j]? = some c
 | [], _, k, u, hu, _, _, _ => by simp at hu
 | v :: us, h, k, u, hu, j, c, hc => by
  have hv := h v List.mem_cons_self
  rw [flat_cons]
  cases k with
  | zero =>
   simp only [List.getElem?_cons_zero, Option.some.injEq] at hu
   subst hu
   have : j < (vcells v).length := by
    rcases Nat.lt_or_ge j (vcells v).length with h' | h'
    ·exact h'
    ·simp [List.getElem?_eq_none h'] at hc
   rw [Nat.zero_mul, Nat.zero_add, List.getElem?_append_left this]; exact hc
  | succ k =>
   simp only [List.getElem?_cons_succ] at hu
   have ih := flat_at (fun x hx => h x (List.mem_cons_of_mem _ hx)) k u hu j c hc
   rw [Nat.succ_mul, List.getElem?_append_right (by omega), show k * sz + sz + j - (vcells v).length = k * sz + j by omega]
   exact ih
theorem flat_back {sz : Nat} (hs : 0 < sz) : ∀ {us : List Value}, (∀ x, x ∈ us → (vcells x).length = sz) → ∀ (q : Nat) c, (flat us)[q]? = some c → ∃ k u j, us[k]? = some u ∧ (vcells u)[j]? = some c ∧ q = k * sz + j
 | [], _, q, c, hq => by simp [flat] at hq
 | v :: us, h, q, c, hq => by
  have hv := h v List.mem_cons_self
  rw [flat_cons] at hq
  rcases Nat.lt_or_ge q (vcells v).length with h' | h'
  ·rw [List.getElem?_append_left h'] at hq
   exact ⟨0, v, q, rfl, hq, by omega⟩
  ·rw [List.getElem?_append_right h'] at hq
   obtain ⟨k, u, j, h1, h2, h3⟩ := flat_back hs (fun x hx => h x (List.mem_cons_of_mem _ hx)) _ c hq
   exact ⟨k + 1, u, j, h1, h2, by rw [Nat.succ_mul]; omega⟩
theorem vcells_one : ∀ {x : Value}, oneB x = true → vcells x = [x] := by
 intro x h; cases x <;> first | rfl | (simp [oneB] at h)
def fitB (sz : Nat) (x : PV) : Bool := match pcells x with
 | some cs => Nat.beq cs.length sz
 | none => false
theorem fitB_rep {Z : Nat → Prop} {w : World} {sz : Nat} {x : PV} {u : Value} (h : fitB sz x = true) (hr : Rep Z w x u) : (vcells u).length = sz ∧ AllOne (vcells u) := by
 unfold fitB at h
 split at h
 ·rename_i cs hcs
  obtain ⟨h1, h2⟩ := pcells_rep hr hcs
  exact ⟨by rw [h1.length]; exact Nat.eq_of_beq_eq_true h, h2⟩
 ·simp at h
def gather (ρ : Operand → Option AV) (sz : Nat) : Nat → List (Nat × Operand) → Option (List PV)
 | _, [] => some []
 | k, (i, x) :: r => match Nat.beq i k, ρ x with
  | true, some (.p e) => match fitB sz e, gather ρ sz (k + 1) r with
   | true, some l => some (e :: l)
   | _, _ => none
  | _, _ => none
def vBuildSlice (E : Env) (rank : Nat) (T : TypeId) (n : Nat) (parts : List (Nat × Operand)) : Vop := fun ρ ℓ K => onB (isHole (ℓ rank)) <| withTy E T fun i => match i.k with
 | .slice _ esz _ _ => onB (Nat.blt 0 esz) <| onB (Nat.ble (n * esz) 16777216) <| match gather ρ esz 0 parts with
  | some es => onB (Nat.beq es.length n) <| K ⟨some (.sl rank esz 0 n), [], [(rank, some (.arr esz es))]⟩
  | none => False
 | _ => False
theorem obAt_arr {Z : Nat → Prop} {lb' : Lb} {w : World} {sz : Nat} {es : List PV} {vs : List Value} {c : Array Value} {ty : TypeId} {lb : Lb} {w0 : World} (hz : ¬ Z w.heap.size) (st : Stp Z lb w0 Z lb' (w.alloc (.cells c ty))) (hsz : 0 < sz) (h : Reps Z w0 es vs)
  (h1 : ∀ x, x ∈ vs → Fit sz x) (h2 : ∀ (k : Nat) u, vs[k]? = some u → ∀ (j : Nat) x, (vcells u)[j]? = some x → c[k * sz + j]? = some x) (h3 : vs.length ≤ big) (h4 : vs.length * sz ≤ c.size) :
  ObAt Z lb' (w.alloc (.cells c ty)) (.arr sz es) (some w.heap.size) :=
 ⟨hz, by simp, vs, c, ty, (0, 0), st.reps h, hsz, h1, alloc_heap_new, ⟨Nat.le_refl _, fun o _ => by simp⟩, h2, h3, h4⟩
end Go.Ab
namespace Go.Ab
variable [Glob]
theorem Own.newNil {Z : Nat → Prop} {lb : Lb} {L : List (Option Ob)} {w : World} (h : Own Z lb L w) {r : Nat} (hr : L[r]? = some none) {sz : Nat} (hsz : 0 < sz) :
  ∃ lb', Stp Z lb w Z lb' w ∧ Own Z lb' (L.set r (some (.arr sz []))) w ∧ lb'[r]? = some (some none) := by
 have hlt : r < lb.length := by
  rw [h.len]
  rcases Nat.lt_or_ge r L.length with h' | h'
  ·exact h'
  ·simp [List.getElem?_eq_none h'] at hr
 have hx : (lb.set r (some none))[r]? = some (some none) := List.getElem?_set_self hlt
 have hole := h.hole r hr
 have st : Stp Z lb w Z (lb.set r (some none)) w := {
  os := rfl, tape := rfl, output := OutD.refl _
  size := Nat.le_refl _
  keep := fun x hx => rfl
  z1 := fun _ h => h
  z2 := fun _ h _ => .inl h
  bs := fun x hx => rfl
  hp := fun x hx _ => rfl
  le := fun i x hi => by
   by_cases hir : i = r
   ·subst hir; rw [hole] at hi; simp at hi
   ·rw [List.getElem?_set_ne (fun hh => hir hh.symm)]; exact hi
  fresh := fun i b hi => by
   by_cases hir : i = r
   ·subst hir; rw [hx] at hi; simp at hi
   ·rw [List.getElem?_set_ne (fun hh => hir hh.symm)] at hi; exact .inl ⟨i, hi⟩
  len := by simp }
 refine ⟨_, st, h.upd st (by rw [← h.len]; exact hlt) hx ⟨rfl, hsz⟩ ?_ ?_ h.zlt.lt, hx⟩
 ·intro i o1 b1 hik hi hl1 hb1
  obtain ⟨x, h3, h4⟩ := h.obj i o1 hi
  rw [hb1] at h3
  simp only [Option.some.injEq] at h3
  subst h3
  obtain ⟨g1, g2⟩ := h4.block hl1
  exact ⟨rfl, g1, by simp⟩
 ·intro i hik hi
  rw [List.getElem?_set_ne (fun hh => hik hh.symm)]
  exact h.hole i hi
theorem Own.newPut {Z : Nat → Prop} {lb : Lb} {L : List (Option Ob)} {w : World} (h : Own Z lb L w) {r k b : Nat} (hr : L[r]? = some none) {o o' : Ob} (hk : L[k]? = some (some o)) (hlive : o.live) (hkb : lb[k]? = some (some (some b)))
  {c c' : Array Value} {ty : TypeId} {fr : Nat × Nat} (hh : w.heap[b]? = some (.cells c ty fr)) (hs : c'.size = c.size)
  (hob : ∀ lb', Stp Z lb w Z lb' (wput w b c') → ObAt Z lb' (wput w b c') o' (some b)) :
  ∃ lb', Stp Z lb w Z lb' (wput w b c') ∧ Own Z lb' ((L.set k (some .dead)).set r (some o')) (wput w b c') ∧ lb'[r]? = some (some (some b)) := by
 have hlt : r < lb.length := by
  rw [h.len]
  rcases Nat.lt_or_ge r L.length with h' | h'
  ·exact h'
  ·simp [List.getElem?_eq_none h'] at hr
 have hrk : r ≠ k := fun hh => by subst hh; rw [hk] at hr; simp at hr
 have hx : (lb.set r (some (some b)))[r]? = some (some (some b)) := List.getElem?_set_self hlt
 have hole := h.hole r hr
 obtain ⟨x0, k1, k2⟩ := h.obj k o hk
 rw [hkb] at k1
 simp only [Option.some.injEq] at k1
 subst k1
 obtain ⟨g1, g2⟩ := k2.block hlive
 have sp := stp_put (lb := lb) g1 hkb hh hs
 have st : Stp Z lb w Z (lb.set r (some (some b))) (wput w b c') := {
  os := sp.os, tape := sp.tape, output := sp.output
  size := sp.size
  keep := sp.keep
  z1 := sp.z1
  z2 := sp.z2
  bs := sp.bs
  hp := sp.hp
  le := fun i x hi => by
   by_cases hir : i = r
   ·subst hir; rw [hole] at hi; simp at hi
   ·rw [List.getElem?_set_ne (fun hh => hir hh.symm)]; exact hi
  fresh := fun i b' hi => by
   by_cases hir : i = r
   ·subst hir; rw [hx] at hi; simp at hi; subst hi; exact .inl ⟨k, hkb⟩
   ·rw [List.getElem?_set_ne (fun hh => hir hh.symm)] at hi; exact .inl ⟨i, hi⟩
  len := by simp }
 have hkill := h.kill hk
 have hlt2 : k < L.length := by
  rcases Nat.lt_or_ge k L.length with h' | h'
  ·exact h'
  ·simp [List.getElem?_eq_none h'] at hk
 refine ⟨_, st, hkill.upd st (by rw [List.length_set, ← h.len]; exact hlt) hx (hob _ st) ?_ ?_ fun x hx => by rw [put_size]; exact h.zlt.lt x hx, hx⟩
 ·intro i o1 b1 hik hi hl1 hb1
  have hik2 : i ≠ k := fun hh => by subst hh; rw [List.getElem?_set_self hlt2] at hi; simp only [Option.some.injEq] at hi; subst hi; exact hl1
  rw [List.getElem?_set_ne (fun hh => hik2 hh.symm)] at hi
  have hne : b1 ≠ b := fun hh => by subst hh; exact hik2 (h.inj i k o1 o b1 hi hk hl1 hlive hb1 hkb)
  obtain ⟨x, h3, h4⟩ := h.obj i o1 hi
  rw [hb1] at h3
  simp only [Option.some.injEq] at h3
  subst h3
  exact ⟨put_heap_other hne, (h4.block hl1).1, fun hh => hne (by simpa using hh.symm)⟩
 ·intro i hik hi
  by_cases hik2 : i = k
  ·subst hik2; rw [List.getElem?_set_self hlt2] at hi; simp at hi
  ·rw [List.getElem?_set_ne (fun hh => hik2 hh.symm)] at hi
   rw [List.getElem?_set_ne (fun hh => hik hh.symm)]
   exact h.hole i hi
def elemsOf (sz : Nat) (ℓ : Nat → Option (Option Ob)) : AV → Option (List PV × List Nat)
 | .p (.view sz' es) => match Nat.beq sz' sz with
  | true => some (es, [])
  | false => none
 | .p (.nview sz' es) => match Nat.beq sz' sz with
  | true => some (es, [])
  | false => none
 | .sl k sz' st n => match ℓ k with
  | some (some (.arr sz'' es)) => match Nat.beq sz' sz, Nat.beq sz'' sz with
   | true, true => match st with
    | 0 => some (es.take n, [k])
    | st => some ((es.drop st).take n, [k])
   | _, _ => none
  | _ => none
 | .p (.v (.slice none 0 _)) => some ([], [])
 | _ => none
structure Reads (Z : Nat → Prop) (w : World) (sz : Nat) (u : Value) (es : List PV) (vs : List Value) : Prop where
 rep : Reps Z w es vs
 len : ∀ x, x ∈ vs → Fit sz x
 val : (∃ c, u = .slice none 0 c ∧ vs = []) ∨ ∃ a n c, u = .slice (some a) n c ∧ n = vs.length ∧ (∀ j x, (flat vs)[j]? = some x → w.cell? (a.add j) = some x)
theorem elemsOf_rep {Z : Nat → Prop} {lb : Lb} {s : ASt} {w : World} (hs : Own Z lb s.L w) {sz : Nat} (hsz : 0 < sz) {ℓ : Nat → Option (Option Ob)} {x : AV} {u : Value} {es : List PV} {ks : List Nat} (hk : ∀ k, k ∈ ks → s.L[k]? = ℓ k)
  (h : elemsOf sz ℓ x = some (es, ks)) (hr : ARep Z lb w x u) (hn : ∀ k sz' st n, x = .sl k sz' st n → es.length = n) : ∃ vs, Reads Z w sz u es vs := by
 have cells : ∀ {vs : List Value} {b o : Nat}, (∀ x, x ∈ vs → Fit sz x) → Elems w b o sz vs → ∀ j x, (flat vs)[j]? = some x → w.cell? ((⟨b, o, none⟩ : Addr).add j) = some x := by
  intro vs b o hl he j x hj
  obtain ⟨k, u, j', h1, h2, rfl⟩ := flat_back hsz (fun x hx => (hl x hx).1) j x hj
  rw [addr_add, ← Nat.add_assoc]
  exact he k u h1 j' x h2
 unfold elemsOf at h
 split at h
 ·rename_i sz' es'
  split at h
  ·rename_i hb
   have hb := Nat.eq_of_beq_eq_true hb
   subst hb
   simp only [Option.some.injEq, Prod.mk.injEq] at h
   obtain ⟨rfl, rfl⟩ := h
   simp only [ARep, Rep] at hr
   obtain ⟨vs, base, cap, g1, rfl, g3, g4, g5, g6⟩ := hr
   refine ⟨vs, g1, g4, ?_⟩
   cases base with
   | none =>
    have h1 := g6.1
    refine .inl ⟨cap, ?_, List.length_eq_zero_iff.1 h1⟩
    rw [h1]
   | some ad =>
    refine .inr ⟨ad, _, _, rfl, rfl, ?_⟩
    rcases g6.2 with h0 | ⟨k1, k2, k3⟩
    ·intro j x hj
     rw [List.length_eq_zero_iff.1 h0] at hj; simp [flat] at hj
    ·obtain ⟨ab, ao, asp⟩ := ad
     simp only at k1 k2 k3
     subst k1
     exact cells g4 k3
  ·simp at h
 ·rename_i sz' es'
  split at h
  ·rename_i hb
   have hb := Nat.eq_of_beq_eq_true hb
   subst hb
   simp only [Option.some.injEq, Prod.mk.injEq] at h
   obtain ⟨rfl, rfl⟩ := h
   simp only [ARep, Rep] at hr
   obtain ⟨vs, ad, cap, g1, rfl, g3, g4, g5, g6⟩ := hr
   refine ⟨vs, g1, g4, .inr ⟨ad, _, _, rfl, rfl, ?_⟩⟩
   rcases g6.2 with h0 | ⟨k1, k2, k3⟩
   ·intro j x hj
    rw [List.length_eq_zero_iff.1 h0] at hj; simp [flat] at hj
   ·obtain ⟨ab, ao, asp⟩ := ad
    simp only at k1 k2 k3
    subst k1
    exact cells g4 k3
  ·simp at h
 ·rename_i k sz' st n
  split at h
  ·rename_i sz'' es' hl
   split at h
   ·rename_i h1 h2
    have h1 := Nat.eq_of_beq_eq_true h1
    have h2 := Nat.eq_of_beq_eq_true h2
    subst h1; subst h2
    have hes : es = (es'.drop st).take n ∧ ks = [k] := by
     split at h <;> simp only [Option.some.injEq, Prod.mk.injEq] at h
     ·exact ⟨by rw [← h.1]; simp, h.2.symm⟩
     ·exact ⟨h.1.symm, h.2.symm⟩
    obtain ⟨rfl, rfl⟩ := hes
    have hlen := hn k _ st n rfl
    have hk' : s.L[k]? = some (some (.arr _ es')) := (hk k (by simp)).trans hl
    simp only [ARep] at hr
    rcases hr with ⟨a1, a2, a3, rfl⟩ | ⟨b, cap, a1, rfl, a3, a4⟩
    ·subst a1 a2
     exact ⟨[], by simp [Reps], by simp, .inl ⟨0, rfl, rfl⟩⟩
    ·obtain ⟨vs, arr, ty, fr, g1, g2, g3, g4, g5, g6, g7, g8⟩ := obj_arr hs hk' a1
     have hr2 := (g1.drop st).take n
     refine ⟨_, hr2, fun x hx => g3 x (List.mem_of_mem_drop (List.mem_of_mem_take hx)), .inr ⟨_, _, _, rfl, ?_, ?_⟩⟩
     ·rw [hr2.length]; exact hlen.symm
     ·refine cells (fun x hx => g3 x (List.mem_of_mem_drop (List.mem_of_mem_take hx))) fun m u hm j x hx => ?_
      have hml : m < ((vs.drop st).take n).length := by
       rcases Nat.lt_or_ge m ((vs.drop st).take n).length with h' | h'
       ·exact h'
       ·simp [List.getElem?_eq_none h'] at hm
      rw [List.getElem?_take_of_lt (by simp at hml; omega), List.getElem?_drop] at hm
      have := g6 (st + m) u hm j x hx
      rw [← Nat.add_mul]
      simp [World.cell?, g4, this]
   ·simp at h
  ·simp at h
 ·simp only [Option.some.injEq, Prod.mk.injEq] at h
  obtain ⟨rfl, rfl⟩ := h
  exact ⟨[], rfl, by simp, .inl ⟨_, rep_v hr, rfl⟩⟩
 ·simp at h
theorem flat_one : ∀ {us : List Value}, (∀ x, x ∈ us → AllOne (vcells x)) → AllOne (flat us)
 | [], _ => fun x hx => by simp [flat] at hx
 | u :: us, h => fun x hx => by
  rw [flat_cons] at hx
  rcases List.mem_append.1 hx with h1 | h1
  ·exact h u List.mem_cons_self x h1
  ·exact flat_one (fun y hy => h y (List.mem_cons_of_mem _ hy)) x h1
end Go.Ab
namespace Go.Ab
variable [Glob]
theorem elemsOf_sl {sz : Nat} {ℓ : Nat → Option (Option Ob)} {k sz' n : Nat} {es : List PV} {ks : List Nat} (h : elemsOf sz ℓ (.sl k sz' 0 n) = some (es, ks)) : ks = [k] ∧ ∃ es0, ℓ k = some (some (.arr sz es0)) ∧ sz' = sz ∧ es = es0.take n := by
 simp only [elemsOf] at h
 split at h
 ·rename_i sz'' es' hl
  split at h
  ·rename_i h1 h2
   have h1 := Nat.eq_of_beq_eq_true h1
   have h2 := Nat.eq_of_beq_eq_true h2
   simp only [Option.some.injEq, Prod.mk.injEq] at h
   rw [h2] at hl
   exact ⟨h.2.symm, _, hl, h1, h.1.symm⟩
  ·simp at h
 ·simp at h
theorem oneCell_of {v : Value} (h : oneB v = true) : v.oneCell' = true := by cases v <;> simp_all [oneB, Value.oneCell']
theorem Reads.src {P : Program} {Z : Nat → Prop} {w : World} {sz : Nat} {u : Value} {es : List PV} {vs : List Value} (h : Reads Z w sz u es vs) {tx e' : TypeId} (hk : P.underlying tx = some (.slice e')) : Src P sz tx u vs.length (flat vs) w := by
 have hl : (flat vs).length = vs.length * sz := flat_length fun x hx => (h.len x hx).1
 rcases h.val with ⟨c, rfl, rfl⟩ | ⟨a, n, c, rfl, rfl, h3⟩
 ·exact Src.ofNil w hk c
 ·exact Src.ofSlice w hk a _ c _ hl h3 fun q hq => oneCell_of (flat_one (fun x hx => (h.len x hx).2) q hq)
theorem Reads.first {P : Program} {Z : Nat → Prop} {w : World} {sz : Nat} {u : Value} {es : List PV} {vs : List Value} (h : Reads Z w sz u es vs) {base : Option Addr} {n c : Nat} (hu : u = .slice base n c) :
  n = vs.length ∧ ∀ c', (Builtin.firstCells sz n (.slice base n c')).run P w.drew = .ok (flat vs).toArray w.drew := by
 have hl : (flat vs).length = vs.length * sz := flat_length fun x hx => (h.len x hx).1
 rcases h.val with ⟨c1, rfl, rfl⟩ | ⟨a, n1, c1, rfl, rfl, h3⟩
 ·simp only [Value.slice.injEq] at hu
  obtain ⟨rfl, rfl, rfl⟩ := hu
  exact ⟨rfl, fun c' => run_firstCells_none w.drew sz 0 0 c'⟩
 ·simp only [Value.slice.injEq] at hu
  obtain ⟨rfl, rfl, rfl⟩ := hu
  exact ⟨rfl, fun c' => run_firstCells_some w.drew sz _ a _ c' _ hl (by simpa using h3)⟩
theorem run_append_room_ab {P : Program} {w : World} (t tx ty e : TypeId) (i : TypeInfo) (ht : P.underlying t = some (.slice e)) (hi : P.info? e = some i) (b off sLen sCap : Nat) (x : Value) (n : Nat) (news : List Value) (hs : Src P i.size tx x n news w)
  (hroom : sLen + n ≤ sCap) {c : Array Value} {fr : Nat × Nat} {et : TypeId} (hb : w.heap[b]? = some (.cells c et fr)) (hle : off + sLen * i.size + news.length ≤ c.size) (hf : Unfrozen fr c.size) :
  (Builtin.append_ #[t, tx] ty #[.slice (some ⟨b, off, none⟩) sLen sCap, x]).run P w = .ok (.slice (some ⟨b, off, none⟩) (sLen + n) sCap) (wput w b (arrSplice c (off + sLen * i.size) news)) := by
 have hst := run_storeCells_ab P b (off + sLen * i.size) et fr news 0 c w hb (by omega) hf (fun q hq => by have := hs.one q hq; cases q <;> simp_all [oneB, Value.oneCell'])
 simp only [Nat.add_zero] at hst
 rcases hs.kind with ⟨e', hk⟩ | hk <;> simp [Builtin.append_, run_underlying ht, run_underlying hk, sizeOf, typeInfo, hi, hs.len, hroom, hs.cells, Addr.add_lit, hst]
def isSliceTy (E : Env) (T : TypeId) (k : TypeId → Nat → Nat → Prop) : Prop := withTy E T fun i => match i.k with
 | .slice e esz eb ez => onB (Nat.beq (vcells ez).length esz) <| k e esz eb
 | _ => False
structure SrcR (P : Program) (Z : Nat → Prop) (w : World) (sz : Nat) (tx : TypeId) (u : Value) (es : List PV) (vs : List Value) : Prop where
 rep : Reps Z w es vs
 len : ∀ x, x ∈ vs → Fit sz x
 src : Src P sz tx u vs.length (flat vs) w
theorem Reads.srcR {P : Program} {Z : Nat → Prop} {w : World} {sz : Nat} {u : Value} {es : List PV} {vs : List Value} (h : Reads Z w sz u es vs) {tx e' : TypeId} (hk : P.underlying tx = some (.slice e')) : SrcR P Z w sz tx u es vs := ⟨h.rep, h.len, h.src hk⟩
def appBody (rank esz eb : Nat) (ℓ : Nat → Option (Option Ob)) (y : AV) (xs : List PV) (ks : List Nat) (K : Eff → Prop) : Prop := match y with
 | .p (.v (.slice none 0 0)) => (xs.length ≤ big ∧ xs.length * eb ≤ big) ∧ K ⟨some (.sl rank esz 0 xs.length), ks, [(rank, some (.arr esz xs))]⟩
 | .sl k sz 0 n => match elemsOf esz ℓ (.sl k sz 0 n) with
  | some (es, _) => es.length = n ∧ (n + xs.length ≤ big ∧ (n + xs.length) * eb ≤ big) ∧ K ⟨some (.sl rank esz 0 (n + xs.length)), ks, [(k, some .dead), (rank, some (.arr esz (es ++ xs)))]⟩
  | none => False
 | _ => False
def vAppend (E : Env) (rank : Nat) (T T2 : TypeId) (s x : Operand) : Vop := fun ρ ℓ K => onB (isHole (ℓ rank)) <| isSliceTy E T fun _ esz eb => isSliceTy E T2 fun _ _ _ => onB (Nat.blt 0 esz) <|
 withV (ρ s) fun y => withV (ρ x) fun z => match elemsOf esz ℓ z with
  | some (xs, ks) => (match z with | .sl _ _ _ n => xs.length = n | _ => True) ∧ appBody rank esz eb ℓ y xs ks K
  | none => False
set_option maxHeartbeats 1000000 in
theorem sApp (E : Env) (o : Oper) (rank : Nat) (T T2 : TypeId) (sx x : Operand) (ho : o.op = .call { callee := .builtin .append, args := #[sx, x], argTypes := #[T, T2] }) {ρ : Operand → Option AV} {ℓ : Nat → Option (Option Ob)} {K : Eff → Prop}
  {i : TyI} {e : TypeId} {inf : TypeInfo} {z : Value} {esz eb : Nat} {ez : Value} {j : TypeInfo} {zz : Value} {xs : List PV} {ks : List Nat} {y : AV} (F : TyFacts E.P T i (.slice e) inf z) (hez : (vcells ez).length = esz) (a1 : E.P.info? e = some j) (a2 : j.zero = some zz) (a3 : j.size = esz) (a4 : j.bytes = eb) (a5 : zz = ez)
  (hh : isHole (ℓ rank) = true) (hp : 0 < esz) (hsm : sx ∈ o.op.operands) (hy : ρ sx = some y)
  (hrx : ∀ {Z : Nat → Prop} {lb : Lb} {s : ASt} {a : Act} {w : World}, St Z lb s a w → (∀ q, q ∈ o.op.operands → ev s.t q = ρ q) → (∀ k, k ∈ ks → s.L[k]? = ℓ k) → ∃ vs, SrcR E.P Z w esz T2 (a.eval x) xs vs)
  (h : appBody rank esz eb ℓ y xs ks K) : ∃ e, K e ∧ ∀ s : ASt, okDst s.n o.dst = true → (∀ x, x ∈ o.op.operands → ev s.t x = ρ x) → (∀ k, k ∈ touch e → s.L[k]? = ℓ k) → OpAt E.P o s e := by
 unfold appBody at h
 have hexec : ∀ {a : Act} {w w' : World} {u : Value}, (Builtin.append_ #[T, T2] o.type #[a.eval sx, a.eval x]).run E.P w = .ok u w' → (execOp a.eval o).run E.P w = .ok (.value u) w' := by
  intro a w w' u h
  simp [execOp, ho, resolve, invoke, builtin, h]
 -- a new row
 have grow : ∀ {Z : Nat → Prop} {lb : Lb} {L : List (Option Ob)} {a : Act} {w : World} {es : List PV} {us vs : List Value} {base : Option Addr} {n cap : Nat}, Own Z lb L w → L[rank]? = some none → a.eval sx = .slice base n cap → Reads Z w esz (a.eval sx) es us →
   SrcR E.P Z w esz T2 (a.eval x) xs vs → cap < n + vs.length → es.length + xs.length ≤ big → (es.length + xs.length) * eb ≤ big →
   ∃ u w' lb', (execOp a.eval o).run E.P w = .ok (.value u) w' ∧ Stp Z lb w Z lb' w' ∧ Own Z lb' (L.set rank (some (.arr esz (es ++ xs)))) w' ∧ ARep Z lb' w' (.sl rank esz 0 (es.length + xs.length)) u := by
  intro Z lb L a w es us vs base n cap own hr hu r1 r2 hcap hb1 hb2
  obtain ⟨hn, hfirst⟩ := r1.first (P := E.P) hu
  have l1 := r1.rep.length
  have l2 := r2.rep.length
  have hsrc := r2.src
  rw [← a3] at hsrc
  have hgrow := run_append_grow_src (P := E.P) w T T2 o.type e j zz F.und a1 a2 base n cap (flat us) (by rw [a3]; exact hfirst cap) (a.eval x) vs.length (flat vs) hsrc hcap
   (by unfold big at hb1; omega) (growslice_fits hcap (by rw [a4]; unfold big at hb2; rw [show n + vs.length = es.length + xs.length by omega]; exact hb2))
  rw [← hu] at hgrow
  have st0 : Stp Z lb w Z lb w.drew := stp_heap rfl rfl rfl (od_drew _)
  have own0 : Own Z lb L w.drew := own.heap rfl rfl rfl (od_drew _)
  have fit : ∀ q, q ∈ us ++ vs → Fit esz q := fun q hq => by
   rcases List.mem_append.1 hq with h1 | h1
   ·exact r1.len q h1
   ·exact r2.len q h1
  have hfl : (flat (us ++ vs)).length = (us ++ vs).length * esz := flat_length fun q hq => (fit q hq).1
  obtain ⟨lb', st, own', hb'⟩ := own0.new hr (ob := .cells ((flat us ++ flat vs).toArray ++ Builtin.zeroCells zz.cells (grownCap w (n + vs.length) cap e - (n + vs.length))) e) (o' := .arr esz (es ++ xs)) (fun lb' st hz =>
   obAt_arr hz st hp ((st0.reps r1.rep).append (st0.reps r2.rep)) fit (fun k u hk q c hc => by
    have := flat_at (fun q hq => (fit q hq).1) k u hk q c hc
    rw [flat_append] at this
    have hlt : k * esz + q < (flat us ++ flat vs).length := by
     rcases Nat.lt_or_ge (k * esz + q) (flat us ++ flat vs).length with h' | h'
     ·exact h'
     ·simp [List.getElem?_eq_none h'] at this
    rw [Array.getElem?_append_left (by simpa using hlt)]
    simpa using this) (by simp; omega) (by rw [← hfl, flat_append]; simp))
  refine ⟨_, _, lb', hexec hgrow, st0.trans st, own', ?_⟩
  simp only [ARep]
  refine .inr ⟨_, grownCap w (n + vs.length) cap e, hb', ?_, ?_, ?_⟩
  ·rw [Nat.zero_mul]; rw [show n + vs.length = es.length + xs.length by omega]; rfl
  ·have := grownCap_ge w (n + vs.length) cap e; omega
  ·have hge := grownCap_ge w (n + vs.length) cap e
   have hzs : zz.cells.size = esz := by rw [← hez, ← a5, vcells]; simp
   rw [bsize_of alloc_heap_new]
   have hzc : (Builtin.zeroCells zz.cells (grownCap w (n + vs.length) cap e - (n + vs.length))).size = (grownCap w (n + vs.length) cap e - (n + vs.length)) * esz := by simp [Builtin.zeroCells, hzs]
   rw [Array.size_append, hzc, List.size_toArray, ← flat_append, hfl, ← Nat.add_mul, Nat.zero_add, List.length_append]
   exact Nat.mul_le_mul_right _ (by omega)
 have stay : ∀ {Z : Nat → Prop} {a : Act} {w : World} {vs : List Value}, a.eval sx = .slice none 0 0 → SrcR E.P Z w esz T2 (a.eval x) xs vs → xs.length = 0 → (execOp a.eval o).run E.P w = .ok (.value (.slice none 0 0)) w := by
  intro Z a w vs hu r2 hx0
  have l2 := r2.rep.length
  have hsrc := r2.src
  have h00 : vs.length = 0 := by omega
  rw [h00, ← a3] at hsrc
  refine hexec ?_
  rw [hu]
  rcases hsrc.kind with ⟨e', hk⟩ | hk <;> simp [Builtin.append_, run_underlying F.und, run_underlying hk, sizeOf, typeInfo, a1, hsrc.len, hsrc.cells]
 have nilR : ∀ (Z : Nat → Prop) (w : World), Reads Z w esz (.slice none 0 0) [] [] := fun Z w => ⟨rfl, by simp, .inl ⟨0, rfl, rfl⟩⟩
 split at h
 ·obtain ⟨⟨hb1, hb2⟩, h⟩ := h
  refine ⟨_, h, fun s hd hq ht => opAt_chg hd fun Z lb a w hs => ?_⟩
  have hu := rep_v (ev_rep hs (find_ev hq hsm hy))
  have hr : s.L[rank]? = some none := (ht rank (by simp [touch])).trans (isHole_eq hh)
  obtain ⟨vs, r2⟩ := hrx hs hq fun k hk => ht k (by simp [touch, hk])
  by_cases hx0 : xs.length = 0
  ·obtain ⟨lb', st, own, hb'⟩ := hs.own.newNil hr hp
   have : xs = [] := List.length_eq_zero_iff.1 hx0
   refine ⟨_, w, Z, lb', stay hu r2 hx0, st, by simpa [setAll, setL_eq, this] using own, ?_⟩
   simp only [ARep]
   exact .inl ⟨trivial, hx0, hb', trivial⟩
  ·have l2 := r2.rep.length
   obtain ⟨u, w', lb', g1, g2, g3, g4⟩ := grow hs.own hr hu (by rw [hu]; exact nilR Z w) r2 (by omega) (by simpa using hb1) (by simpa using hb2)
   exact ⟨u, w', Z, lb', g1, g2, by simpa [setAll, setL_eq] using g3, by simpa using g4⟩
 ·rename_i k sz n
  split at h
  ·rename_i es ks' hes
   obtain ⟨hln, ⟨hb1, hb2⟩, h⟩ := h
   refine ⟨_, h, fun s hd hq ht => opAt_chg hd fun Z lb a w hs => ?_⟩
   have hr : s.L[rank]? = some none := (ht rank (by simp [touch])).trans (isHole_eq hh)
   obtain ⟨vs, r2⟩ := hrx hs hq fun k hk => ht k (by simp [touch, hk])
   have hyr := ev_rep hs (find_ev hq hsm hy)
   have hkk : s.L[k]? = ℓ k := ht k (by simp [touch])
   obtain ⟨us, r1⟩ := elemsOf_rep hs.own hp (ks := ks') (fun q hq' => by
    have : q = k := by
     rw [(elemsOf_sl hes).1] at hq'
     simpa using hq'
    rw [this]; exact hkk) hes hyr (fun k' sz' st' n' hh' => by simp only [AV.sl.injEq] at hh'; obtain ⟨_, _, _, rfl⟩ := hh'; exact hln)
   have l2 := r2.rep.length
   have l1 := r1.rep.length
   -- what the object holds
   obtain ⟨_, es0, hk0, hsz0, hes0⟩ := elemsOf_sl hes
   have hk1 : s.L[k]? = some (some (.arr esz es0)) := hkk.trans hk0
   have hrk : rank ≠ k := fun hh' => by rw [hh', hk1] at hr; simp at hr
   have hr' : (s.L.set k (some .dead))[rank]? = some none := by rw [List.getElem?_set_ne (fun hh' => hrk hh'.symm)]; exact hr
   simp only [ARep] at hyr
   rcases hyr with ⟨_, n0, c3, hu⟩ | ⟨b, cap, c1, hu, c3, c4⟩
   ·have hes1 : es = [] := List.length_eq_zero_iff.1 (by omega)
    by_cases hx0 : xs.length = 0
    ·obtain ⟨lb', st, own, hb'⟩ := (hs.own.kill hk1).newNil hr' hp
     have : xs = [] := List.length_eq_zero_iff.1 hx0
     refine ⟨_, w, Z, lb', stay hu r2 hx0, st, by simpa [setAll, setL_eq, this, hes1] using own, ?_⟩
     simp only [ARep]
     exact .inl ⟨trivial, by omega, hb', trivial⟩
    ·obtain ⟨u, w', lb', g1, g2, g3, g4⟩ := grow (hs.own.kill hk1) hr' hu r1 r2 (by omega) (by omega) (by rw [hln]; exact hb2)
     exact ⟨u, w', Z, lb', g1, g2, by simpa [setAll, setL_eq] using g3, by rw [hln] at g4; exact g4⟩
   ·by_cases hroom : n + vs.length ≤ cap
    ·subst hsz0
     obtain ⟨vs0, arr, ty, fr, g1, g2, g3, g4, g5, g6, g7, g8⟩ := obj_arr hs.own hk1 c1
     rw [bsize_of g4] at c4
     have hsrc := r2.src
     rw [← a3] at hsrc
     have hfl : (flat vs).length = vs.length * sz := flat_length fun q hq => (r2.len q hq).1
     have hcap : (n + vs.length) * sz ≤ cap * sz := Nat.mul_le_mul_right _ hroom
     rw [Nat.add_mul] at hcap
     rw [Nat.zero_add] at c4
     have hrun := run_append_room_ab T T2 o.type e j F.und a1 b 0 n cap (a.eval x) vs.length (flat vs) hsrc hroom g4 (by rw [a3, hfl]; omega) g5
     rw [a3, Nat.zero_add] at hrun
     have hu' : a.eval sx = .slice (some ⟨b, 0, none⟩) n cap := by rw [hu, Nat.zero_mul]
     rw [← hu'] at hrun
     have h0len := g1.length
     obtain ⟨lb', st, own, hb'⟩ := hs.own.newPut hr hk1 trivial c1 g4 (c' := arrSplice arr (n * sz) (flat vs)) (arrSplice_size _ _ _) (o' := .arr sz (es ++ xs)) (fun lb' st => by
      obtain ⟨x0, k1, k2⟩ := hs.own.obj k _ hk1
      rw [c1] at k1
      simp only [Option.some.injEq] at k1
      subst k1
      have ht0 : (vs0.take n).length = n := by rw [(g1.take n).length, ← hes0]; exact hln
      refine ⟨k2.1, by rw [put_size]; exact k2.2.1, vs0.take n ++ vs, _, ty, fr, by rw [hes0]; exact (st.reps (g1.take n)).append (st.reps r2.rep), hp, ?_, put_heap g4, by rw [arrSplice_size]; exact g5, ?_, by rw [List.length_append, ht0]; omega, by rw [arrSplice_size, List.length_append, ht0, Nat.add_mul]; omega⟩
      ·intro q hq'
       rcases List.mem_append.1 hq' with h1 | h1
       ·exact g3 q (List.mem_of_mem_take h1)
       ·exact r2.len q h1
      ·intro m u hm q c hc
       have hql : q < (vcells u).length := by
        rcases Nat.lt_or_ge q (vcells u).length with h' | h'
        ·exact h'
        ·simp [List.getElem?_eq_none h'] at hc
       rw [arrSplice_get _ _ _ _ (by omega)]
       rcases Nat.lt_or_ge m n with hmn | hmn
       ·rw [List.getElem?_append_left (by omega), List.getElem?_take_of_lt hmn] at hm
        have hus := (g3 u (List.mem_of_getElem? hm)).1
        have : (m + 1) * sz ≤ n * sz := Nat.mul_le_mul_right sz hmn
        rw [Nat.succ_mul] at this
        rw [if_neg (by omega)]
        exact g6 m u hm q c hc
       ·rw [List.getElem?_append_right (by omega), ht0] at hm
        have hus := (r2.len u (List.mem_of_getElem? hm)).1
        have hml : m - n < vs.length := by
         rcases Nat.lt_or_ge (m - n) vs.length with h' | h'
         ·exact h'
         ·simp [List.getElem?_eq_none h'] at hm
        have e1 : m * sz = n * sz + (m - n) * sz := by rw [← Nat.add_mul, show n + (m - n) = m by omega]
        have e2 : (m - n + 1) * sz ≤ vs.length * sz := Nat.mul_le_mul_right sz hml
        rw [Nat.succ_mul] at e2
        rw [if_pos (by omega), show m * sz + q - n * sz = (m - n) * sz + q by omega]
        exact flat_at (fun q hq => (r2.len q hq).1) (m - n) u hm q c hc)
     refine ⟨_, _, Z, lb', hexec hrun, st, by simpa [setAll, setL_eq] using own, ?_⟩
     simp only [ARep]
     refine .inr ⟨b, cap, hb', by rw [Nat.zero_mul, l2], by omega, ?_⟩
     rw [bsize_of (put_heap g4), arrSplice_size, Nat.zero_add]; exact c4
    ·obtain ⟨u, w', lb', g1, g2, g3, g4⟩ := grow (hs.own.kill hk1) hr' hu r1 r2 (by omega) (by omega) (by rw [hln]; exact hb2)
     exact ⟨u, w', Z, lb', g1, g2, by simpa [setAll, setL_eq] using g3, by rw [hln] at g4; exact g4⟩
  ·exact h.elim
 ·exact h.elim
set_option maxHeartbeats 1000000 in
theorem sAppend (E : Env) (o : Oper) (rank : Nat) (T T2 : TypeId) (sx x : Operand) (ho : o.op = .call { callee := .builtin .append, args := #[sx, x], argTypes := #[T, T2] }) : Sound E o (vAppend E rank T T2 sx x) := by
 intro ρ ℓ K h0
 obtain ⟨hh, h1⟩ := onB_some h0
 obtain ⟨i, d, inf, z, h2, F⟩ := withTy_some h1
 clear h0 h1
 split at h2
 ·rename_i e esz eb ez hk
  obtain ⟨hez, h2'⟩ := onB_some h2
  have hez := Nat.eq_of_beq_eq_true hez
  obtain ⟨i2, d2, inf2, z2, h3, F2⟩ := withTy_some h2'
  clear h2 h2'
  split at h3
  ·rename_i e2 esz2 eb2 ez2 hk2
   obtain ⟨_, h3'⟩ := onB_some h3
   obtain ⟨hp, h4⟩ := onB_some h3'
   obtain ⟨y, hy, h5⟩ := withV_some h4
   obtain ⟨zx, hz, h⟩ := withV_some h5
   clear h3 h3' h4 h5
   have hp : 0 < esz := Nat.le_of_ble_eq_true hp
   have hsm : sx ∈ o.op.operands := by simp [ho, Op.operands, Call.operands]
   have hxm : x ∈ o.op.operands := by simp [ho, Op.operands, Call.operands]
   obtain ⟨rfl, j, zz, a1, a2, a3, a4, a5⟩ := F.slice hk
   obtain ⟨rfl, j2, zz2, b1, b2, b3, b4, b5⟩ := F2.slice hk2
   split at h
   ·rename_i xs ks hel
    obtain ⟨hzl, h⟩ := h
    exact sApp E o rank T T2 sx x ho F hez a1 a2 a3 a4 a5 hh hp hsm hy (fun {Z lb s a w} hs hq hks => by
     obtain ⟨vs, hr⟩ := elemsOf_rep hs.own hp hks hel (ev_rep hs (find_ev hq hxm hz)) fun k sz' st n hzz => by
      subst hzz
      exact hzl
     exact ⟨vs, hr.srcR F2.und⟩) h
   ·exact h.elim
  ·exact h3.elim
 ·exact h2.elim
end Go.Ab
