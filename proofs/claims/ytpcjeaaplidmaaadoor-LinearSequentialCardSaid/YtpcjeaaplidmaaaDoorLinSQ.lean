/- Contracts of functions of this program, and the plain facts that they rest on. No conditions. -/
import Derived.Test.YtpcjeaaplidmaaaDoorLinRQ
set_option linter.unusedSimpArgs false
set_option linter.unusedVariables false
namespace Go.Proofs.YtpcjeaaplidmaaaDoor
open Go Go.Ab
attribute [local irreducible] callK callF loopQ vstep vskip pickE hideP
open Go.RowKit
set_option maxRecDepth 100000
/-! The reference's Apply is the specification's. -/
def rstep (key v : Int) (q : LP × Bool) (x : Int × Int) : LP × Bool :=
  if q.2 = false ∧ key ≤ x.1 then (if x.1 = key then (q.1 ++ [(key, v)], true) else (q.1 ++ [(key, v)] ++ [x], true)) else (if x.1 = key then (q.1, q.2) else (q.1 ++ [x], q.2))
def rset (s : LP) (key v : Int) : LP := if (s.foldl (rstep key v) ([], false)).2 = true then (s.foldl (rstep key v) ([], false)).1 else (s.foldl (rstep key v) ([], false)).1 ++ [(key, v)]
def fget (s : LP) (key : Int) : Int := (Sp.Pl.find s key).getD 0
def fhas (s : LP) (key : Int) : Bool := (Sp.Pl.find s key).isSome
def rpop (s : LP) : LP := Sp.enumI 0 ((s.drop 1).map Prod.snd)
def keyR (k : Int) (o : Sp.O) : Int := if k = 1 ∨ k = 4 then 0 else o.key
def rapp (k : Int) (s : LP) (o : Sp.O) : LP × Sp.R :=
  if o.c = 1 then (s, ⟨fget s (keyR k o), true, 0⟩) else
  if o.c = 2 then (rset s 0 o.val, ⟨o.val, true, 0⟩) else
  if o.c = 9 then (rset s 0 (IntKind.u64.wrap (fget s (keyR k o) + o.val)), ⟨IntKind.u64.wrap (fget s (keyR k o) + o.val), true, 0⟩) else
  if o.c = 4 then (if fhas s (keyR k o) = false then (s, ⟨0, false, 5⟩) else (s, ⟨fget s (keyR k o), true, 0⟩)) else
  if o.c = 5 then (rset s (keyR k o) o.val, ⟨fget s (keyR k o), true, 0⟩) else
  if o.c = 6 then (if fhas s (keyR k o) = false then (s, ⟨0, false, 5⟩) else (Sp.Pl.wo s (keyR k o), ⟨fget s (keyR k o), true, 0⟩)) else
  if o.c = 3 then (if fhas s (keyR k o) = false then (s, ⟨0, false, 5⟩) else if fget s (keyR k o) ≠ o.old then (s, ⟨fget s (keyR k o), false, 6⟩) else (rset s (keyR k o) o.val, ⟨fget s (keyR k o), true, 0⟩)) else
  if o.c = 7 then (s ++ [((s.length : Int), o.val)], ⟨o.val, true, 0⟩) else
  if s.length = 0 then (s, ⟨0, false, 5⟩) else (rpop s, ⟨(s.getD 0 default).2, true, 0⟩)
/-! The reference's Verify. -/
def rsT (k : Int) (l : List Hi.C) (o : List Int) : Nat → LP
  | 0 => Sp.contM (ini k)
  | i + 1 => (rapp k (rsT k l o i) (opC (cO l o i))).1
def rsQ (k : Int) (l : List Hi.C) (o : List Int) (i : Nat) : Prop := 0 ≤ (cO l o i).en → eqR (rapp k (rsT k l o i) (opC (cO l o i))).2 (resC (cO l o i))
def rsOk (k : Int) (l : List Hi.C) (o : List Int) (n : Nat) : Prop := ∀ i, i < n → rsQ k l o i
def rtQ (l : List Hi.C) (o : List Int) (a b : Nat) : Prop := ∀ j, a < j → j < b → ¬ Hi.befM l (o.getD j default) (o.getD a default)
def rtAll (l : List Hi.C) (o : List Int) (a : Nat) : Prop := ∀ i, i < a → rtQ l o i o.length
open Classical in
noncomputable def refV (k : Int) (l : List Hi.C) (o : List Int) (fin : LP) : Int :=
  if ¬ inR l.length o o.length then 2 else if ¬ allE l o l.length then 5 else if ¬ rtAll l o o.length then 8 else if ¬ rsOk k l o o.length then 16 else if ¬ rsT k l o o.length = fin then 11 else 0
end Go.Proofs.YtpcjeaaplidmaaaDoor
