/- Contracts of functions of this program, and the plain facts that they rest on. No conditions. -/
import Derived.Test.YtpcjeaaplidmaaaGreatDoorLinRQ
set_option linter.unusedSimpArgs false
set_option linter.unusedVariables false
namespace Go.Proofs.YtpcjeaaplidmaaaGreatDoor
open Go Go.Ab
attribute [local irreducible] callK callF loopQ vstep vskip pickE hideP
open Go.RowKit
set_option maxRecDepth 100000
def rstep (key v : Int) (q : LP × Bool) (x : Int × Int) : LP × Bool :=
 if q.2 = false ∧ key ≤ x.1 then (if x.1 = key then (q.1 ++ [(key, v)], true) else (q.1 ++ [(key, v)] ++ [x], true)) else (if x.1 = key then (q.1, q.2) else (q.1 ++ [x], q.2))
def rset (s : LP) (key v : Int) : LP := if (s.foldl (rstep key v) ([], false)).2 = true then (s.foldl (rstep key v) ([], false)).1 else (s.foldl (rstep key v) ([], false)).1 ++ [(key, v)]
def fget (s : LP) (key : Int) : Int := (Sp.Pl.find s key).getD 0
def fhas (s : LP) (key : Int) : Bool := (Sp.Pl.find s key).isSome
def rpop (s : LP) : LP := Sp.enumI 0 ((s.drop 1).map Prod.snd)
def keyR (k : Int) (o : Sp.O) : Int := if k = 1 ∨ k = 4 then 0 else o.key
def rapp (k : Int) (s : LP) (o : Sp.O) : LP × Sp.R :=
 if o.c = 1 then (s, ⟨fget s (keyR k o), true, 0⟩) else
 if o.c = 2 then (rset s 0 o.val, ⟨o.val, true, 0⟩) else
 if o.c = 9 then (rset s 0 (IntKind.u64.wrap (fget s (keyR k o) + o.val)), ⟨IntKind.u64.wrap (fget s (keyR k o) + o.val), true, 0⟩) else
 if o.c = 4 then (if fhas s (keyR k o) = false then (s, ⟨0, false, 5⟩) else (s, ⟨fget s (keyR k o), true, 0⟩)) else
 if o.c = 5 then (rset s (keyR k o) o.val, ⟨fget s (keyR k o), true, 0⟩) else
 if o.c = 6 then (if fhas s (keyR k o) = false then (s, ⟨0, false, 5⟩) else (Sp.Pl.wo s (keyR k o), ⟨fget s (keyR k o), true, 0⟩)) else
 if o.c = 3 then (if fhas s (keyR k o) = false then (s, ⟨0, false, 5⟩) else if fget s (keyR k o) ≠ o.old then (s, ⟨fget s (keyR k o), false, 6⟩) else (rset s (keyR k o) o.val, ⟨fget s (keyR k o), true, 0⟩)) else
 if o.c = 7 then (s ++ [((s.length : Int), o.val)], ⟨o.val, true, 0⟩) else
 if s.length = 0 then (s, ⟨0, false, 5⟩) else (rpop s, ⟨(s.getD 0 default).2, true, 0⟩)
theorem fold_true {key v : Int} : ∀ {l : LP} {o : LP}, (∀ q, q ∈ l → key < q.1) → l.foldl (rstep key v) (o, true) = (o ++ l, true)
 | [], o, _ => by simp
 | x :: l, o, h => by
  have hx := h x List.mem_cons_self
  rw [List.foldl_cons, show rstep key v (o, true) x = (o ++ [x], true) from by unfold rstep; rw [if_neg (by simp), if_neg (by omega)], fold_true fun q hq => h q (List.mem_cons_of_mem _ hq)]
  simp
theorem fold_ins {key v : Int} : ∀ {l : LP} {o : LP}, Sp.Pl.srt l → (if (l.foldl (rstep key v) (o, false)).2 = true then (l.foldl (rstep key v) (o, false)).1 else (l.foldl (rstep key v) (o, false)).1 ++ [(key, v)]) = o ++ Sp.Pl.ins l key v
 | [], o, _ => by simp [Sp.Pl.ins]
 | x :: l, o, h => by
  obtain ⟨h1, h2⟩ := h
  rw [List.foldl_cons]
  rcases Int.lt_trichotomy x.1 key with hx | hx | hx
  ·rw [show rstep key v (o, false) x = (o ++ [x], false) from by unfold rstep; rw [if_neg (by omega), if_neg (by omega)], fold_ins h2, show Sp.Pl.ins (x :: l) key v = x :: Sp.Pl.ins l key v from by rw [Sp.Pl.ins, if_pos hx]]
   simp
  ·rw [show rstep key v (o, false) x = (o ++ [(key, v)], true) from by unfold rstep; rw [if_pos ⟨rfl, by omega⟩, if_pos hx], fold_true fun q hq => by have := h1 q hq; omega, show Sp.Pl.ins (x :: l) key v = (key, v) :: l from by rw [Sp.Pl.ins, if_neg (by omega), if_pos hx]]
   simp
  ·rw [show rstep key v (o, false) x = (o ++ [(key, v)] ++ [x], true) from by unfold rstep; rw [if_pos ⟨rfl, by omega⟩, if_neg (by omega)], fold_true fun q hq => by have := h1 q hq; omega, show Sp.Pl.ins (x :: l) key v = (key, v) :: x :: l from by rw [Sp.Pl.ins, if_neg (by omega), if_neg (by omega)]]
   simp
theorem rset_ins {l : LP} {key v : Int} (h : Sp.Pl.srt l) : rset l key v = Sp.Pl.ins l key v := by
 unfold rset; rw [fold_ins h]; rfl
theorem rset_one (n v : Int) : rset [(0, n)] 0 v = [(0, v)] := by
 have hs : Sp.Pl.srt [(0, n)] := ⟨fun q hq => by simp at hq, trivial⟩
 rw [rset_ins hs]; simp [Sp.Pl.ins]
theorem snd_enum : ∀ (vs : List Int) (i : Nat), (Sp.enumI i vs).map Prod.snd = vs
 | [], _ => rfl
 | v :: vs, i => by simp only [Sp.enumI, List.map_cons, snd_enum vs (i + 1)]
theorem rapp_ok {s : Sp.S} {b : Nat} (h : OkS s b) {o : Sp.O} (hk : knowsM s.k o.c = true) : rapp s.k (Sp.contM s) o = (Sp.contM (Sp.applyM s o).1, (Sp.applyM s o).2) := by
 have hkr := apply_k s o
 unfold knowsM at hk
 by_cases k1 : s.k = 1
 ·rw [if_pos k1] at hk
  have hc := of_decide_eq_true hk
  have e : Sp.contM s = [(0, s.n)] := by unfold Sp.contM; rw [if_pos (.inl k1)]
  have e2 : ∀ n, Sp.contM { s with n := n } = [(0, n)] := fun n => by unfold Sp.contM; rw [if_pos (.inl k1)]
  have kk : keyR s.k o = 0 := if_pos (.inl k1)
  have hf : fget [(0, s.n)] 0 = s.n := rfl
  have hh : fhas [(0, s.n)] 0 = true := rfl
  have hr := fun v => rset_one s.n v
  unfold Sp.applyM Sp.regM
  rw [if_pos k1, e]
  unfold rapp
  rw [kk, hf, hh]
  rcases hc with hc | hc | hc
  ·rw [if_pos hc, if_pos hc, e]
  ·rw [if_neg (by omega), if_pos hc, if_neg (by omega), if_pos hc, hr, e2]
  ·rw [if_neg (by omega), if_neg (by omega), if_neg (by omega), if_neg (by omega), if_neg (by omega), if_neg (by omega), if_pos hc, if_neg (show ¬ o.c = 1 by omega), if_neg (show ¬ o.c = 2 by omega), if_pos hc]
   by_cases hv : s.n = o.old
   ·simp [hv, rset_one, e2]
   ·simp [hv, e]
 ·rw [if_neg k1] at hk
  by_cases k2 : s.k = 2
  ·rw [if_pos k2] at hk
   have hc := of_decide_eq_true hk
   have hs := h.inv.srt
   have e : Sp.contM s = s.ps := by unfold Sp.contM; rw [if_neg (by omega), if_pos k2]
   have e2 : ∀ ps, Sp.contM { s with ps := ps } = ps := fun ps => by unfold Sp.contM; rw [if_neg (by dsimp only; omega), if_pos k2]
   have kk : keyR s.k o = o.key := if_neg (by omega)
   have hl := Sp.Pl.find_look (k := o.key) hs
   have hr : ∀ v, rset s.ps o.key v = Sp.Pl.ins s.ps o.key v := fun v => rset_ins hs
   unfold Sp.applyM
   rw [if_neg k1, if_pos k2, Sp.map_pl, e]
   unfold rapp Sp.mapP' fget fhas
   rw [kk, hl]
   rcases hc with hc | hc | hc | hc <;> simp only [hc]
   ·cases hm : Sp.Pl.look s.ps o.key with
    | none => simp [e]
    | some v =>
     by_cases hv : v = o.old
     ·simp [hv, e2, hr]
     ·simp [hv, e]
   ·cases hm : Sp.Pl.look s.ps o.key with
    | none => simp [e]
    | some v => simp [e]
   ·cases hm : Sp.Pl.look s.ps o.key with
    | none => simp [e2, hr]
    | some v => simp [e2, hr]
   ·cases hm : Sp.Pl.look s.ps o.key with
    | none => simp [e]
    | some v => simp [e2, Sp.Pl.wo_del hs (by rw [hm]; rfl)]
  ·rw [if_neg k2] at hk
   by_cases k3 : s.k = 3
   ·rw [if_pos k3] at hk
    have hc := of_decide_eq_true hk
    have e : Sp.contM s = Sp.enumI 0 s.vs := by unfold Sp.contM; rw [if_neg (by omega), if_neg (by omega)]
    have e2 : ∀ vs, Sp.contM { s with vs := vs } = Sp.enumI 0 vs := fun vs => by unfold Sp.contM; rw [if_neg (by dsimp only; omega), if_neg (by dsimp only; omega)]
    unfold Sp.applyM Sp.queM
    rw [if_neg k1, if_neg k2, if_pos k3, e]
    unfold rapp
    rcases hc with hc | hc <;> simp only [hc]
    ·simp [e2, Sp.enumI_append, Sp.enumI_length, Sp.enumI]
    ·cases hv : s.vs with
     | nil => simp [e, hv, Sp.enumI]
     | cons v t => simp [e2, rpop, Sp.enumI, snd_enum]
   ·rw [if_neg k3] at hk
    have hc := of_decide_eq_true hk
    have k4 := hc.1
    have e : Sp.contM s = [(0, s.n)] := by unfold Sp.contM; rw [if_pos (.inr k4)]
    have e2 : ∀ n, Sp.contM { s with n := n } = [(0, n)] := fun n => by unfold Sp.contM; rw [if_pos (.inr k4)]
    have kk : keyR s.k o = 0 := if_pos (.inr k4)
    have hf : fget [(0, s.n)] 0 = s.n := rfl
    have hr := fun v => rset_one s.n v
    unfold Sp.applyM
    rw [if_neg k1, if_neg k2, if_neg k3, if_pos k4, e]
    unfold rapp
    rw [kk, hf]
    rcases hc.2 with hc | hc
    ·rw [if_pos hc, if_pos hc, e]
    ·rw [if_neg (by omega), if_neg (by omega), if_pos hc, if_neg (by omega), if_pos hc, hr, e2]
def rsT (k : Int) (l : List Hi.C) (o : List Int) : Nat → LP
 | 0 => Sp.contM (ini k)
 | i + 1 => (rapp k (rsT k l o i) (opC (cO l o i))).1
def rsQ (k : Int) (l : List Hi.C) (o : List Int) (i : Nat) : Prop := 0 ≤ (cO l o i).en → eqR (rapp k (rsT k l o i) (opC (cO l o i))).2 (resC (cO l o i))
def rsOk (k : Int) (l : List Hi.C) (o : List Int) (n : Nat) : Prop := ∀ i, i < n → rsQ k l o i
def rtQ (l : List Hi.C) (o : List Int) (a b : Nat) : Prop := ∀ j, a < j → j < b → ¬ Hi.befM l (o.getD j default) (o.getD a default)
def rtAll (l : List Hi.C) (o : List Int) (a : Nat) : Prop := ∀ i, i < a → rtQ l o i o.length
open Classical in
noncomputable def refV (k : Int) (l : List Hi.C) (o : List Int) (fin : LP) : Int :=
 if ¬ inR l.length o o.length then 2 else if ¬ allE l o l.length then 5 else if ¬ rtAll l o o.length then 8 else if ¬ rsOk k l o o.length then 16 else if ¬ rsT k l o o.length = fin then 11 else 0
end Go.Proofs.YtpcjeaaplidmaaaGreatDoor