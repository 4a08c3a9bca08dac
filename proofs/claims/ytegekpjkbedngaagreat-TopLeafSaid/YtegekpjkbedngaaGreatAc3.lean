/- Part 3 of a framework of lemmas that the proofs of this seat use: what a function computes, told by plain values. No conditions. -/
import Derived.Test.YtegekpjkbedngaaGreatAc2
import Derived.OrdersIn
import Derived.TacticsIn
import Derived.LoopNIn
import Derived.RangeFuncRecord
import Derived.RangeFuncLeaves
import Derived.ProofKit
import Derived.OpenShut
import Derived.Carry
import Derived.Lib.LaidTab
import Derived.Shelf.Vars
import Derived.HandedShaped
import Derived.LaidMore
import Derived.Lib.ItoaNum
set_option linter.unusedVariables false
set_option linter.unusedSimpArgs false
set_option linter.unusedSectionVars false
set_option warn.classDefReducibility false
set_option linter.unusedSectionVars false
namespace Go.Ab
variable [Glob]
def intTy (E : Env) (T : TypeId) : Bool := match tfind E.tys T with
 | some i => match i.k with
  | .int _ => true
  | _ => false
 | none => false
def strTy (E : Env) (T : TypeId) : Bool := match tfind E.tys T with
 | some i => match i.k with
  | .str => true
  | _ => false
 | none => false
def mapTy (E : Env) (T : TypeId) : Bool := match tfind E.tys T with
 | some i => match i.k with
  | .map _ _ _ => true
  | _ => false
 | none => false
def vClearX (E : Env) (T : TypeId) (x : Operand) : Vop := match mapTy E T with
 | true => vClearM E T x
 | false => vClear E T x
theorem sClearX (E : Env) (o : Oper) (T : TypeId) (x : Operand) (ho : o.op = .call { callee := .builtin .clear, args := #[x], argTypes := #[T] }) : Sound E o (vClearX E T x) := by
 unfold vClearX
 split
 ·exact sClearM E o T x ho
 ·exact sClear E o T x ho
def vBuiltin (E : Env) (rank : Nat) (b : Builtin) (args : List Operand) (ts : List TypeId) : Vop := match b with
 | .len => match args, ts with
  | [x], [T] => vLen E T x
  | _, _ => fun _ _ _ => False
 | .append => match args, ts with
  | [s, x], [T, T2] => match intTy E T2 with
   | true => vAppendZ E rank T T2 s x
   | false => match strTy E T2 with
    | true => vAppendS E rank T T2 s x
    | false => vAppend E rank T T2 s x
  | _, _ => fun _ _ _ => False
 | .copy => match args, ts with
  | [x, y], [T, _] => vCopy E T x y
  | _, _ => fun _ _ _ => False
 | .cap => match args, ts with
  | [x], [T] => vCap E T x
  | _, _ => fun _ _ _ => False
 | .clear => match args, ts with
  | [x], [T] => vClearX E T x
  | _, _ => fun _ _ _ => False
 | .max => match args with
  | [x, y] => vMinMax true x y
  | _ => fun _ _ _ => False
 | .min => match args with
  | [x, y] => vMinMax false x y
  | _ => fun _ _ _ => False
 | _ => fun _ _ _ => False
def vop (E : Env) (o : Oper) (rank : Nat) : Vop := match o.op with
 | .move x => vMove x
 | .assign x => vMove x
 | .pick c a b => vPick c a b
 | .alloc T => vAlloc E rank T
 | .box _ x => vBox rank x
 | .build T ps => vBuild E T ps.toList
 | .buildSlice T n ps => vBuildSliceF E rank T n ps.toList
 | .load T x => vLoad E T x
 | .store T x y => vStoreF E T x y
 | .binOp op T x y _ => vBinP E op T x y
 | .unOp op _ x => vUn op x
 | .convert s d x => vConvX E rank s d x
 | .makeFunc f a b => vMakeFunc f a.toList b.toList
 | .makeSlice T x y => vMake E rank T x y
 | .slice T x lo hi none => vSliceA E T x lo hi
 | .fieldAddr T x n => vFieldAddr E T x n
 | .field T x n => vField E T x n
 | .indexAddr T x y => vIndexAddr E T x y
 | .index T x y => vIndex E T x y
 | .extract x n => vExtract x n
 | .nilCheck x => vNil x
 | .makeInterface T x => vIface E T x
 | .makeMap T none => vMakeMap E rank T
 | .lookup T x ix ok => vLookup E T x ix ok
 | .mapUpdate T m k x => vMapUpdate E T m k x
 | .range T x => vRange E rank T x
 | .entry x => vEntry x
 | .call c => match c.callee with
  | .value f => vCall E rank f c.args.toList
  | .builtin b => vBuiltin E rank b c.args.toList c.argTypes.toList
  | .invoke r n => vInvoke E rank r n c.args.toList
 | _ => fun _ _ _ => False
theorem sound_false {E : Env} {o : Oper} : Sound E o (fun _ _ _ => False) := fun _ _ _ h => h.elim
theorem list1 {α : Type} {a : Array α} {x : α} (h : a.toList = [x]) : a = #[x] := by apply Array.ext'; simpa using h
theorem list2 {α : Type} {a : Array α} {x y : α} (h : a.toList = [x, y]) : a = #[x, y] := by apply Array.ext'; simpa using h
theorem vop_sound (E : Env) (o : Oper) (rank : Nat) : Sound E o (vop E o rank) := by
 unfold vop
 split
 ·exact sMove E o _ (.inl (by assumption))
 ·exact sMove E o _ (.inr (by assumption))
 ·exact sPick E o _ _ _ (by assumption)
 ·exact sAlloc E o rank _ (by assumption)
 ·exact sBox E o rank _ _ (by assumption)
 ·exact sBuild E o _ _ (by assumption)
 ·exact sBuildSliceF E o rank _ _ _ (by assumption)
 ·exact sLoad E o _ _ (by assumption)
 ·exact sStoreF E o _ _ _ (by assumption)
 ·exact sBinP E o _ _ _ _ _ (by assumption)
 ·exact sUn E o _ _ _ (by assumption)
 ·exact sConvX E o rank _ _ _ (by assumption)
 ·exact sMakeFunc E o _ _ _ (by assumption)
 ·exact sMake E o rank _ _ _ (by assumption)
 ·exact sSliceA E o _ _ _ _ (by assumption)
 ·exact sFieldAddr E o _ _ _ (by assumption)
 ·exact sField E o _ _ _ (by assumption)
 ·exact sIndexAddr E o _ _ _ (by assumption)
 ·exact sIndex E o _ _ _ (by assumption)
 ·exact sExtract E o _ _ (by assumption)
 ·exact sNil E o _ (by assumption)
 ·exact sIface E o _ _ (by assumption)
 ·exact sMakeMap E o rank _ (by assumption)
 ·exact sLookup E o _ _ _ _ (by assumption)
 ·exact sMapUpdate E o _ _ _ _ (by assumption)
 ·exact sRange E o rank _ _ (by assumption)
 ·exact sEntry E o _ (by assumption)
 ·rename_i c ho
  obtain ⟨callee, args, ts⟩ := c
  simp only
  split
  ·rename_i f
   exact sCall E o rank f args ts ho
  ·rename_i b
   unfold vBuiltin
   split
   ·split
    ·rename_i x T h1 h2
     rw [list1 h1, list1 h2] at ho
     exact sLen E o T x ho
    ·exact sound_false
   ·split
    ·rename_i s x T T2 h1 h2
     rw [list2 h1, list2 h2] at ho
     split
     ·exact sAppendZ E o rank T T2 s x ho
     ·split
      ·exact sAppendS E o rank T T2 s x ho
      ·exact sAppend E o rank T T2 s x ho
    ·exact sound_false
   ·split
    ·rename_i x y T T2 h1 h2
     rw [list2 h1, list2 h2] at ho
     exact sCopy E o T T2 x y ho
    ·exact sound_false
   ·split
    ·rename_i x T h1 h2
     rw [list1 h1, list1 h2] at ho
     exact sCap E o T x ho
    ·exact sound_false
   ·split
    ·rename_i x T h1 h2
     rw [list1 h1, list1 h2] at ho
     exact sClearX E o T x ho
    ·exact sound_false
   ·split
    ·rename_i x y h1
     rw [list2 h1] at ho
     exact sMinMax E o true ts x y ho
    ·exact sound_false
   ·split
    ·rename_i x y h1
     rw [list2 h1] at ho
     exact sMinMax E o false ts x y ho
    ·exact sound_false
   ·exact sound_false
  ·exact sInvoke E o rank _ _ args ts ho
 ·exact sound_false
def slotsOf (o : Oper) : Nat := match o.op with
 | .alloc _ => 1
 | .box _ _ => 1
 | .buildSlice _ _ _ => 1
 | .makeSlice _ _ _ => 1
 | .makeMap _ _ => 1
 | .range _ _ => 1
 | .convert _ _ _ => 1
 | .call c => match c.callee with
  | .builtin .append => 1
  | .value f => match f with
   | .func g => Glob.slots g
   | _ => 1
  | .invoke _ n => Glob.islots n
  | _ => 0
 | _ => 0
def holesOf : List Oper → Nat
 | [] => 0
 | o :: r => slotsOf o + holesOf r
def pushHoles : Nat → List (Option Ob) → List (Option Ob)
 | 0, L => L
 | n + 1, L => pushHoles n (L ++ [none])
def addL : List (Option Ob) → Nat → List (Option Ob)
 | [], 0 => []
 | [], n + 1 => none :: addL [] n
 | x :: l, n => x :: addL l n
theorem addL_eq : ∀ (l : List (Option Ob)) n, addL l n = l ++ List.replicate n none
 | [], 0 => by simp [addL]
 | [], n + 1 => by simp [addL, addL_eq [] n, List.replicate_succ]
 | x :: l, n => by simp [addL, addL_eq l n]
structure FP where
 dst : Option Tmp
 tr : List Tmp
 rd : List Nat
 wr : List Nat
def tmpsOf : List Operand → List Tmp
 | [] => []
 | .tmp t :: r => t :: tmpsOf r
 | _ :: r => tmpsOf r
def gdst (ops : List Oper) (o : Oper) : Option (Tmp × Bool) := match o.guard with
 | none => none
 | some (j, want) => match nth ops j with
  | some oj => match oj.dst with
   | some d => some (d, want)
   | none => none
  | none => none
def fpOf (o : Oper) (g : Option (Tmp × Bool)) (e : Option Eff) : FP :=
 {dst := o.dst
  tr := (match g with | some (d, _) => [d] | none => []) ++ tmpsOf o.op.operands.toList
  rd := match e with | some e => e.rd | none => []
  wr := match e with | some e => e.wr.map (·.1) | none => [] }
def ASt.eff (s : ASt) (o : Oper) : Option Eff → ASt
 | some e => s.app o.dst e
 | none => { s with t := tput s.t o.dst (some (.tup [])) }
def litT (s : ASt) (d : Tmp) (b : Bool) : ASt := { s with t := (d, some (vOk (.bool b))) :: s.t }
def vstep (E : Env) (o : Oper) (rank : Nat) (s : ASt) (K : Eff → Prop) : Prop := onB (okDst s.n o.dst) (vop E o rank (ev s.t) (nth s.L) K)
def vskip (o : Oper) (s : ASt) (K : Prop) : Prop := onB (okDst s.n o.dst) K
def vexec (E : Env) (ops : List Oper) : List Oper → Nat → ASt → List (FP) → (ASt → List FP → Prop) → Prop
 | [], _, s, fps, K => K s fps
 | o :: rest, rank, s, fps, K => match o.guard with
  | none => vstep E o rank s fun e => vexec E ops rest (rank + slotsOf o) (s.eff o (some e)) (fpOf o none (some e) :: fps) K
  | some _ => match gdst ops o with
   | some (d, want) => match tget s.t d with
    | some (.p (.v (.bool b))) => fork b
      (match want with
       | true => vstep E o rank (litT s d true) fun e => vexec E ops rest (rank + slotsOf o) ((litT s d true).eff o (some e)) (fpOf o (some (d, want)) (some e) :: fps) K
       | false => vskip o s (vexec E ops rest (rank + slotsOf o) ((litT s d true).eff o none) (fpOf o (some (d, want)) none :: fps) K))
      (match want with
       | false => vstep E o rank (litT s d false) fun e => vexec E ops rest (rank + slotsOf o) ((litT s d false).eff o (some e)) (fpOf o (some (d, want)) (some e) :: fps) K
       | true => vskip o s (vexec E ops rest (rank + slotsOf o) ((litT s d false).eff o none) (fpOf o (some (d, want)) none :: fps) K))
    | some (.tup []) => vskip o s (vexec E ops rest (rank + slotsOf o) (s.eff o none) (fpOf o (some (d, want)) none :: fps) K)
    | _ => False
   | none => False
def Same (s s' : ASt) : Prop := s.n = s'.n ∧ (∀ d, tget s.t d = tget s'.t d) ∧ (∀ k : Nat, s.L[k]? = s'.L[k]?)
theorem Same.refl (s : ASt) : Same s s := ⟨rfl, fun _ => rfl, fun _ => rfl⟩
theorem Same.symm {s s' : ASt} (h : Same s s') : Same s' s := ⟨h.1.symm, fun d => (h.2.1 d).symm, fun k => (h.2.2 k).symm⟩
theorem Same.trans {s s' s'' : ASt} (h : Same s s') (k : Same s' s'') : Same s s'' := ⟨h.1.trans k.1, fun d => (h.2.1 d).trans (k.2.1 d), fun i => (h.2.2 i).trans (k.2.2 i)⟩
theorem Same.L {s s' : ASt} (h : Same s s') : s.L = s'.L := List.ext_getElem? h.2.2
theorem Same.ev {s s' : ASt} (h : Same s s') (x : Operand) : ev s.t x = ev s'.t x := by
 cases x with
 | tmp d => exact h.2.1 d
 | const v => cases v <;> rfl
 | _ => rfl
theorem Same.st {s s' : ASt} (h : Same s s') {Z : Nat → Prop} {lb : Lb} {a : Act} {w : World} (k : St Z lb s a w) : St Z lb s' a w :=
 ⟨h.L ▸ k.own, fun d x hx => k.tm d x ((h.2.1 d).trans hx), k.df, k.sz.trans h.1⟩
theorem tget_tput (t : List (Nat × Option AV)) (dst : Option Tmp) (x : Option AV) (d : Nat) : tget (tput t dst x) d = if dst = some d then x else tget t d := by
 cases dst with
 | none => simp [tput]
 | some e =>
  simp only [tput, tget]
  split
  ·rename_i hb
   have : e = d := Nat.eq_of_beq_eq_true hb
   simp [this]
  ·rename_i hb
   have : ¬ e = d := fun hh => by subst hh; simp at hb
   simp [this]
theorem Same.eff {s s' : ASt} (h : Same s s') (o : Oper) (e : Option Eff) : Same (s.eff o e) (s'.eff o e) := by
 have hL := h.L
 cases e with
 | none =>
  refine ⟨h.1, fun d => ?_, fun k => by simp only [ASt.eff, hL]⟩
  simp only [ASt.eff, tget_tput, h.2.1]
 | some e =>
  refine ⟨h.1, fun d => ?_, fun k => by simp only [ASt.eff, ASt.app, hL]⟩
  simp only [ASt.eff, ASt.app, tget_tput, h.2.1]
theorem litT_same {s : ASt} {d : Tmp} {b : Bool} (h : tget s.t d = some (vOk (.bool b))) : Same (litT s d b) s := by
 refine ⟨rfl, fun e => ?_, fun _ => rfl⟩
 simp only [litT, tget]
 split
 ·rename_i hb
  have : d = e := Nat.eq_of_beq_eq_true hb
  subst this
  exact h.symm
 ·rfl
structure Rec (E : Env) (ops : List Oper) (o : Oper) (s : ASt) (e : Option Eff) : Prop where
 dst : okDst s.n o.dst = true
 guard : (o.guard = none ∧ e.isSome = true) ∨ (∃ d want b, gdst ops o = some (d, want) ∧ tget s.t d = some (vOk (.bool b)) ∧ e.isSome = (b == want)) ∨ ∃ d want, gdst ops o = some (d, want) ∧ tget s.t d = some (.tup []) ∧ e.isSome = false
 run : ∀ e', e = some e' → ∀ s' : ASt, okDst s'.n o.dst = true → (∀ x, x ∈ o.op.operands → ev s'.t x = ev s.t x) → (∀ k, k ∈ touch e' → s'.L[k]? = s.L[k]?) → OpAt E.P o s' e'
inductive Trace (E : Env) (ops : List Oper) : List Oper → List (Option Eff) → ASt → ASt → Prop where
 | nil (s : ASt) : Trace E ops [] [] s s
 | cons {o : Oper} {rest : List Oper} {e : Option Eff} {es : List (Option Eff)} {s s₁ s₂ s₃ : ASt} (h : Rec E ops o s₁ e) (hs : Same s s₁) (t : Trace E ops rest es s₂ s₃) (h2 : s₂ = s₁.eff o e) : Trace E ops (o :: rest) (e :: es) s s₃
def fpsOf (ops : List Oper) : List Oper → List (Option Eff) → List FP → List FP
 | o :: r, e :: es, acc => fpsOf ops r es (fpOf o (match o.guard with | none => none | some _ => gdst ops o) e :: acc)
 | _, _, acc => acc
theorem vexec_trace (E : Env) (ops : List Oper) : ∀ (l : List Oper) (rank : Nat) (s : ASt) (fps : List FP) (K : ASt → List FP → Prop), vexec E ops l rank s fps K →
  ∃ es s', Trace E ops l es s s' ∧ K s' (fpsOf ops l es fps)
 | [], rank, s, fps, K, h => ⟨[], s, .nil s, h⟩
 | o :: rest, rank, s, fps, K, h => by
  have run : ∀ (s₁ : ASt) (g : Option (Tmp × Bool)), vstep E o rank s₁ (fun e => vexec E ops rest (rank + slotsOf o) (s₁.eff o (some e)) (fpOf o g (some e) :: fps) K) → Same s s₁ →
    (g = match o.guard with | none => none | some _ => gdst ops o) →
    (∀ e : Eff, (o.guard = none ∧ (some e).isSome = true) ∨ (∃ d want b, gdst ops o = some (d, want) ∧ tget s₁.t d = some (vOk (.bool b)) ∧ (some e).isSome = (b == want)) ∨ ∃ d want, gdst ops o = some (d, want) ∧ tget s₁.t d = some (.tup []) ∧ (some e).isSome = false) →
    ∃ es s', Trace E ops (o :: rest) es s s' ∧ K s' (fpsOf ops (o :: rest) es fps) := by
   intro s₁ g hv hsame hg hguard
   obtain ⟨hd, hv⟩ := onB_some hv
   obtain ⟨e, he, hsound⟩ := vop_sound E o rank _ _ _ hv
   obtain ⟨es, s', ht, hK⟩ := vexec_trace E ops rest _ _ _ K he
   refine ⟨some e :: es, s', .cons (s₁ := s₁) ⟨hd, hguard e, ?_⟩ hsame ht rfl, ?_⟩
   ·intro e' hee s'' hd' hq hk
    cases hee
    exact hsound s'' hd' hq fun k hk' => by rw [nth_eq]; exact hk k hk'
   ·simp only [fpsOf]; rw [← hg]; exact hK
  have skip : ∀ (s₁ : ASt) (g : Option (Tmp × Bool)), vskip o s (vexec E ops rest (rank + slotsOf o) (s₁.eff o none) (fpOf o g none :: fps) K) → Same s s₁ →
    (g = match o.guard with | none => none | some _ => gdst ops o) →
    ((∃ d want b, gdst ops o = some (d, want) ∧ tget s₁.t d = some (vOk (.bool b)) ∧ (none : Option Eff).isSome = (b == want)) ∨ ∃ d want, gdst ops o = some (d, want) ∧ tget s₁.t d = some (.tup []) ∧ (none : Option Eff).isSome = false) →
    ∃ es s', Trace E ops (o :: rest) es s s' ∧ K s' (fpsOf ops (o :: rest) es fps) := by
   intro s₁ g hv hsame hg hguard
   obtain ⟨hd, hv⟩ := onB_some hv
   obtain ⟨es, s', ht, hK⟩ := vexec_trace E ops rest _ _ _ K hv
   refine ⟨none :: es, s', .cons (s₁ := s₁) ⟨hsame.1 ▸ hd, .inr hguard, ?_⟩ hsame ht rfl, ?_⟩
   ·intro e' hee; cases hee
   ·simp only [fpsOf]; rw [← hg]; exact hK
  simp only [vexec] at h
  split at h
  ·rename_i hgd
   exact run s none h (Same.refl s) (by rw [hgd]) fun e => .inl ⟨hgd, rfl⟩
  ·rename_i q hgd
   split at h
   ·rename_i d want hgg
    split at h
    ·rename_i b hb
     cases b
     ·have hsm := (litT_same hb).symm
      replace h := h.run
      simp only at h
      split at h
      ·exact run _ _ h hsm (by rw [hgd]; exact hgg.symm) fun e => .inr (.inl ⟨d, false, false, hgg, by rw [← hsm.2.1]; exact hb, rfl⟩)
      ·exact skip _ _ h hsm (by rw [hgd]; exact hgg.symm) (.inl ⟨d, true, false, hgg, by rw [← hsm.2.1]; exact hb, rfl⟩)
     ·have hsm := (litT_same hb).symm
      replace h := h.run
      simp only at h
      split at h
      ·exact run _ _ h hsm (by rw [hgd]; exact hgg.symm) fun e => .inr (.inl ⟨d, true, true, hgg, by rw [← hsm.2.1]; exact hb, rfl⟩)
      ·exact skip _ _ h hsm (by rw [hgd]; exact hgg.symm) (.inl ⟨d, false, true, hgg, by rw [← hsm.2.1]; exact hb, rfl⟩)
    ·rename_i hb
     exact skip s _ h (Same.refl s) (by rw [hgd]; exact hgg.symm) (.inr ⟨d, want, hgg, hb, rfl⟩)
    ·exact h.elim
   ·exact h.elim
end Go.Ab
namespace Go.Ab
def wd (ρ : Option Nat) : Fence := { Fence.wide with round := ρ }
def rfO (o : Oper) : Bool := match o.op with
 | .defer _ => false
 | _ => true
def rf : Code → Bool
 | .region _ ops _ => ops.toList.all rfO
 | .seq a b => rf a && rf b
 | .cond _ a b => rf a && rf b
 | .block _ c => rf c
 | .loop c => rf c
 | .skip => true
 | .ret => true
 | .exit _ => true
 | _ => false
theorem callsIn_wd {ρ : Option Nat} {n : Nat} {P : Program} {f : FuncId} {args : Array Value} {w : World} {R : Ending → World → Prop} : CallsIn (wd ρ) n P f args w R ↔ Calls P f args w R :=
 (Iff.rfl : CallsIn (wd ρ) n P f args w R ↔ CallsIn Fence.wide n P f args w R).trans callsIn_wide
theorem rows_wd {ρ : Option Nat} {n : Nat} {P : Program} {r : String} {args : Array Value} {w : World} {R : Value → World → Prop} (h : Rows P r args w R) : RowsIn (wd ρ) n P r args w R := by
 intro c cs _
 obtain ⟨v, w', h1, h2⟩ := h c cs
 exact ⟨v, w', h1, (StepsIn.of_steps h2).mono fun m _ => fenced_wide P m⟩
theorem wp_in {ρ : Option Nat} {P : Program} {o : Oper} {a : Act} {w : World} {K : Act → World → Prop} {Q : Exit → Act → World → Prop} (hρ : ρ = none ∨ rfO o = true) (h : o.wp P a w K Q) : o.wpIn (wd ρ) 0 P a w K Q := by
 refine ⟨fun _ _ => trivial, ?_⟩
 have hs : o.semAt (wd ρ).round a.eval = execOp a.eval o := by
  rcases hρ with rfl | hρ
  ·rfl
  ·exact Oper.semAt_eq _ _ _ fun c hc => by simp [rfO, hc] at hρ
 rw [hs]
 unfold Oper.wp at h
 revert h
 generalize (execOp a.eval o).run P w = r
 intro h
 cases r with
 | ok n w' =>
  cases n <;> first
   | exact h
   | exact ⟨fun hd => by simp [wd, Fence.wide] at hd, callsIn_wd.2 h⟩
   | exact ⟨fun hd => by simp [wd, Fence.wide] at hd, rows_wd h⟩
   | exact h.elim
 | halt x w' => cases x <;> first | exact h | exact h.elim
theorem rf_op {l : List Oper} {ρ : Option Nat} (h : ρ = none ∨ l.all rfO = true) {o : Oper} (ho : o ∈ l) : ρ = none ∨ rfO o = true := h.imp id fun h => List.all_eq_true.1 h o ho
end Go.Ab
namespace Go.Ab
variable [Glob]
section seq
variable {E : Env} {A : Array Oper}
theorem wanted_guard {ops : List Oper} (hA : A.toList = ops) {o : Oper} {d : Tmp} {want : Bool} (h : gdst ops o = some (d, want)) {Z : Nat → Prop} {lb : Lb} {s : ASt} {a : Act} {w : World} (hs : St Z lb s a w) {b : Bool} (hb : tget s.t d = some (vOk (.bool b))) :
  Region.wanted o (yielded A a.tmps) = (b == want) := by
 unfold gdst at h
 split at h
 ·simp at h
 ·rename_i j w' hg
  split at h
  ·rename_i oj hj
   split at h
   ·rename_i d' hd
    simp only [Option.some.injEq, Prod.mk.injEq] at h
    obtain ⟨rfl, rfl⟩ := h
    rw [nth_eq, ← hA, Array.getElem?_toList] at hj
    obtain ⟨u, h1, h2⟩ := hs.tm _ _ hb
    have := rep_v h2
    subst this
    have hy : yielded A a.tmps j = some b := by simp [yielded, hj, hd, h1]
    simp only [Region.wanted, hg, hy]
    cases b <;> cases w' <;> rfl
   ·simp at h
  ·simp at h
theorem wanted_undef {ops : List Oper} (hA : A.toList = ops) {o : Oper} {d : Tmp} {want : Bool} (h : gdst ops o = some (d, want)) {Z : Nat → Prop} {lb : Lb} {s : ASt} {a : Act} {w : World} (hs : St Z lb s a w) (hb : tget s.t d = some (.tup [])) :
  Region.wanted o (yielded A a.tmps) = false := by
 unfold gdst at h
 split at h
 ·simp at h
 ·rename_i j w' hg
  split at h
  ·rename_i oj hj
   split at h
   ·rename_i d' hd
    simp only [Option.some.injEq, Prod.mk.injEq] at h
    obtain ⟨rfl, rfl⟩ := h
    rw [nth_eq, ← hA, Array.getElem?_toList] at hj
    obtain ⟨u, h1, h2⟩ := hs.tm _ _ hb
    simp only [ARep, AReps] at h2
    obtain ⟨vs, rfl, rfl⟩ := h2
    have hy : yielded A a.tmps j = none := by simp [yielded, hj, hd, h1]
    simp only [Region.wanted, hg, hy]
    cases w' <;> rfl
   ·simp at h
  ·simp at h
theorem seq_sound {ρ : Option Nat} {ops : List Oper} (hA : A.toList = ops) {Q : Exit → Act → World → Prop} : ∀ {l : List Oper} {es : List (Option Eff)} {s s' : ASt}, (ρ = none ∨ l.all rfO = true) → Trace E ops l es s s' → ∀ {Z : Nat → Prop} {lb : Lb} {a : Act} {w : World}, St Z lb s a w →
  (∀ Z' lb' a' w', Stp Z lb w Z' lb' w' → St Z' lb' s' a' w' → a'.defers = a.defers → Q .normal a' w') → wpListIn (wd ρ) 0 E.P A Q l a w := by
 intro l es s s' hρ ht
 induction ht with
 | nil s => intro Z lb a w hs hQ; exact hQ Z lb a w (Stp.refl _ _ _) hs rfl
 | @cons o rest e es s s₁ s₂ s₃ hr hsame t h2 ih =>
  intro Z lb a w hs hQ
  have hs1 := hsame.st hs
  have hw : Region.wanted o (yielded A a.tmps) = e.isSome := by
   rcases hr.guard with ⟨h1, h3⟩ | ⟨d, want, b, h1, h3, h4⟩ | ⟨d, want, h1, h3, h4⟩
   ·rw [h3]; simp [Region.wanted, h1]
   ·rw [wanted_guard hA h1 hs1 h3, h4]
   ·rw [wanted_undef hA h1 hs1 h3, h4]
  unfold wpListIn
  rw [hw]
  cases e with
  | some e =>
   rw [if_pos (show (some e).isSome = true from rfl)]
   refine wp_in (hρ.imp id fun h => by simp only [List.all_cons, Bool.and_eq_true] at h; exact h.1) (hr.run e rfl s₁ hr.dst (fun _ _ => rfl) (fun _ _ => rfl) Z lb a w hs1 _ _ fun Z' lb' a' w' st hs' hdf => ?_)
   exact ih (hρ.imp id fun h => by simp only [List.all_cons, Bool.and_eq_true] at h; exact h.2) (by rw [h2]; exact hs') fun Z'' lb'' a'' w'' st' hs'' hdf' => hQ _ _ _ _ (st.trans st') hs'' (hdf'.trans hdf)
  | none =>
   rw [if_neg (by simp)]
   refine ⟨fun _ _ => trivial, ih (hρ.imp id fun h => by simp only [List.all_cons, Bool.and_eq_true] at h; exact h.2) ?_ fun Z'' lb'' a'' w'' st' hs'' hdf' => hQ _ _ _ _ st' hs'' (hdf'.trans put_df)⟩
   rw [h2]
   exact hs1.put (Stp.refl _ _ _) hs1.own hr.dst fun y hy => by cases hy; simp only [ARep, AReps]; exact ⟨[], rfl, rfl⟩
end seq
inductive Loc where
 | t (d : Nat)
 | o (k : Nat)
def ASt.at (s : ASt) : Loc → Sum (Option AV) (Option (Option Ob))
 | .t d => .inl (tget s.t d)
 | .o k => .inr s.L[k]?
def Wr (o : Oper) (e : Option Eff) : Loc → Prop
 | .t d => o.dst = some d
 | .o k => ∃ e', e = some e' ∧ k ∈ e'.wr.map (·.1)
theorem same_of_at {s s' : ASt} (hn : s.n = s'.n) (h : ∀ x, s.at x = s'.at x) : Same s s' :=
 ⟨hn, fun d => by simpa [ASt.at] using h (.t d), fun k => by simpa [ASt.at] using h (.o k)⟩
theorem Same.at {s s' : ASt} (h : Same s s') (x : Loc) : s.at x = s'.at x := by
 cases x with
 | t d => simp only [ASt.at, h.2.1]
 | o k => simp only [ASt.at, h.2.2]
theorem setAll_write : ∀ (wr : List (Nat × Option Ob)) (L L' : List (Option Ob)) (k : Nat), L.length = L'.length → k ∈ wr.map (·.1) → (setAll L wr)[k]? = (setAll L' wr)[k]?
 | [], _, _, _, _, h => by simp at h
 | (j, o) :: r, L, L', k, hl, h => by
  rw [setAll, setAll, setL_eq, setL_eq]
  by_cases hk : k ∈ r.map (·.1)
  ·exact setAll_write r _ _ k (by simpa using hl) hk
  ·rw [setAll_other r _ k hk, setAll_other r _ k hk]
   simp only [List.map_cons, List.mem_cons] at h
   have : k = j := h.resolve_right hk
   subst this
   simp only [List.getElem?_set, hl, if_true]
theorem eff_len (s : ASt) (o : Oper) (e : Option Eff) : (s.eff o e).L.length = s.L.length ∧ (s.eff o e).n = s.n := by
 cases e with
 | none => exact ⟨rfl, rfl⟩
 | some e => exact ⟨setAll_length _ _, rfl⟩
theorem eff_other {o : Oper} {e : Option Eff} {x : Loc} (s : ASt) (h : ¬ Wr o e x) : (s.eff o e).at x = s.at x := by
 cases x with
 | t d =>
  simp only [Wr] at h
  cases e <;> simp only [ASt.at, ASt.eff, ASt.app, tget_tput, if_neg h]
 | o k =>
  cases e with
  | none => rfl
  | some e =>
   simp only [Wr, not_exists, not_and] at h
   simp only [ASt.at, ASt.eff, ASt.app]
   rw [setAll_other _ _ _ (h e rfl)]
theorem eff_write {o : Oper} {e : Option Eff} {x : Loc} {s s' : ASt} (hl : s.L.length = s'.L.length) (h : Wr o e x) : (s.eff o e).at x = (s'.eff o e).at x := by
 cases x with
 | t d =>
  simp only [Wr] at h
  cases e <;> simp only [ASt.at, ASt.eff, ASt.app, tget_tput, if_pos h]
 | o k =>
  obtain ⟨e', rfl, hk⟩ := h
  simp only [ASt.at, ASt.eff, ASt.app]
  rw [setAll_write _ _ _ _ hl hk]
def resS : (Nat → Bool) → List Oper → List (Option Eff) → ASt → ASt
 | S, o :: r, e :: es, s => resS (fun j => S (j + 1)) r es (match S 0 with | true => s.eff o e | false => s)
 | _, _, _, s => s
theorem resS_len : ∀ (S : Nat → Bool) (l : List Oper) (es : List (Option Eff)) (s : ASt), (resS S l es s).L.length = s.L.length ∧ (resS S l es s).n = s.n
 | S, [], _, s => ⟨rfl, rfl⟩
 | S, _ :: _, [], s => ⟨rfl, rfl⟩
 | S, o :: r, e :: es, s => by
  simp only [resS]
  obtain ⟨h1, h2⟩ := resS_len (fun j => S (j + 1)) r es (match S 0 with | true => s.eff o e | false => s)
  rw [h1, h2]
  cases S 0
  ·exact ⟨rfl, rfl⟩
  ·exact eff_len s o e
theorem resS_agree (x : Loc) : ∀ (l : List Oper) (es : List (Option Eff)) (S S' : Nat → Bool) (s s' : ASt), s.L.length = s'.L.length → s.at x = s'.at x →
  (∀ (j : Nat) o e, l[j]? = some o → es[j]? = some e → Wr o e x → S j = S' j) → (resS S l es s).at x = (resS S' l es s').at x
 | [], _, _, _, _, _, _, h, _ => h
 | _ :: _, [], _, _, _, _, _, h, _ => h
 | o :: r, e :: es, S, S', s, s', hl, h, hw => by
  simp only [resS]
  refine resS_agree x r es _ _ _ _ ?_ ?_ fun j o' e' h1 h2 h3 => hw (j + 1) o' e' (by simpa using h1) (by simpa using h2) h3
  ·cases S 0 <;> cases S' 0 <;> simp [hl, eff_len]
  ·by_cases hx : Wr o e x
   ·rw [hw 0 o e rfl rfl hx]
    cases S' 0
    ·exact h
    ·exact eff_write hl hx
   ·cases S 0 <;> cases S' 0 <;> simp [eff_other _ hx, h]
theorem resS_same : ∀ (l : List Oper) (es : List (Option Eff)) (S : Nat → Bool) (s s' : ASt), Same s s' → Same (resS S l es s) (resS S l es s')
 | [], _, _, _, _, h => h
 | _ :: _, [], _, _, _, h => h
 | o :: r, e :: es, S, s, s', h => by
  simp only [resS]
  refine resS_same r es _ _ _ ?_
  cases S 0
  ·exact h
  ·exact h.eff o e
theorem resS_none : ∀ (l : List Oper) (es : List (Option Eff)) (S : Nat → Bool) (s : ASt), (∀ j, S j = false) → resS S l es s = s
 | [], _, _, _, _ => rfl
 | _ :: _, [], _, _, _ => rfl
 | o :: r, e :: es, S, s, h => by
  simp only [resS, h 0]
  exact resS_none r es _ s fun j => h (j + 1)
theorem resS_succ : ∀ (l : List Oper) (es : List (Option Eff)) (i : Nat) (s : ASt) (o : Oper) (e : Option Eff), l[i]? = some o → es[i]? = some e →
  resS (fun j => decide (j < i + 1)) l es s = (resS (fun j => decide (j < i)) l es s).eff o e
 | [], _, i, s, o, e, h, _ => by simp at h
 | _ :: _, [], i, s, o, e, _, h => by simp at h
 | o' :: r, e' :: es, 0, s, o, e, h1, h2 => by
  simp only [List.getElem?_cons_zero, Option.some.injEq] at h1 h2
  subst h1; subst h2
  simp only [resS]
  rw [resS_none r es _ _ (fun j => by simp), resS_none r es _ _ (fun j => by simp)]
  rfl
 | o' :: r, e' :: es, i + 1, s, o, e, h1, h2 => by
  have ih := resS_succ r es i (s.eff o' e') o e (by simpa using h1) (by simpa using h2)
  simp only [resS, Nat.add_lt_add_iff_right, Nat.zero_lt_succ, decide_true]
  exact ih
theorem Trace.get {E : Env} {ops : List Oper} : ∀ {l : List Oper} {es : List (Option Eff)} {s s' : ASt}, Trace E ops l es s s' →
  es.length = l.length ∧ Same s' (resS (fun _ => true) l es s) ∧ ∀ (i : Nat) o e, l[i]? = some o → es[i]? = some e → ∃ s₁, Rec E ops o s₁ e ∧ Same s₁ (resS (fun j => decide (j < i)) l es s) := by
 intro l es s s' ht
 induction ht with
 | nil s => exact ⟨rfl, Same.refl s, fun i o e h => by simp at h⟩
 | @cons o rest e es s s₁ s₂ s₃ hr hsame t h2 ih =>
  obtain ⟨g1, g2, g3⟩ := ih
  have hsm : Same s₂ (s.eff o e) := by rw [h2]; exact (hsame.eff o e).symm
  refine ⟨by simp [g1], ?_, ?_⟩
  ·simp only [resS]
   exact g2.trans (resS_same _ _ _ _ _ hsm)
  ·intro i o' e' h3 h4
   cases i with
   | zero =>
    simp only [List.getElem?_cons_zero, Option.some.injEq] at h3 h4
    subst h3; subst h4
    refine ⟨s₁, hr, ?_⟩
    rw [resS_none _ _ _ _ fun j => by simp]
    exact hsame.symm
   | succ i =>
    obtain ⟨s4, k1, k2⟩ := g3 i o' e' (by simpa using h3) (by simpa using h4)
    refine ⟨s4, k1, k2.trans ?_⟩
    simp only [resS, Nat.add_lt_add_iff_right, Nat.zero_lt_succ, decide_true]
    exact resS_same _ _ _ _ _ hsm
def Tc (ops : List Oper) (o : Oper) (e : Option Eff) : Loc → Prop
 | .t d => o.dst = some d ∨ .tmp d ∈ o.op.operands ∨ ∃ want, gdst ops o = some (d, want)
 | .o k => ∃ e', e = some e' ∧ k ∈ touch e'
theorem Wr.tc {ops : List Oper} {o : Oper} {e : Option Eff} {x : Loc} (h : Wr o e x) : Tc ops o e x := by
 cases x with
 | t d => exact .inl h
 | o k => obtain ⟨e', h1, h2⟩ := h; exact ⟨e', h1, by simp only [touch, List.mem_append]; exact .inr h2⟩
inductive Bef (l : List Oper) : Nat → Nat → Prop where
 | one {i j : Nat} {o : Oper} {g : Edge} (h : l[i]? = some o) (hg : g ∈ o.after.toList) (hb : Region.binds .any g = true) (hj : g.on = j) : Bef l j i
 | more {i j k : Nat} {o : Oper} {g : Edge} (h : l[i]? = some o) (hg : g ∈ o.after.toList) (hb : Region.binds .any g = true) (hj : g.on = k) (hk : Bef l j k) : Bef l j i
structure Compat (l : List Oper) (es : List (Option Eff)) : Prop where
 back : ∀ (i : Nat) o, l[i]? = some o → ∀ g, g ∈ o.after.toList → Region.binds .any g = true → g.on < i
 conf : ∀ (i j : Nat) oi oj ei ej, j < i → l[i]? = some oi → l[j]? = some oj → es[i]? = some ei → es[j]? = some ej → (∃ x, (Wr oj ej x ∧ Tc l oi ei x) ∨ (Wr oi ei x ∧ Tc l oj ej x)) → Bef l j i
theorem filt_lt {α : Type} (p p' : α → Bool) : ∀ (l : List α), (∀ x, x ∈ l → p' x = true → p x = true) → ∀ x, x ∈ l → p x = true → p' x = false → (l.filter p').length < (l.filter p).length
 | [], _, x, hx, _, _ => by simp at hx
 | y :: l, h, x, hx, h1, h2 => by
  have hle : ∀ (l : List α), (∀ x, x ∈ l → p' x = true → p x = true) → (l.filter p').length ≤ (l.filter p).length := by
   intro l
   induction l with
   | nil => intro _; simp
   | cons z l ih =>
    intro hh
    have ih := ih fun x hx => hh x (List.mem_cons_of_mem _ hx)
    cases hz' : p' z with
    | true => simp [hz', hh z List.mem_cons_self hz', ih]
    | false => cases hz : p z <;> simp [hz, hz'] <;> omega
  rcases List.mem_cons.1 hx with rfl | hx
  ·have := hle l fun z hz => h z (List.mem_cons_of_mem _ hz)
   simp [h1, h2]; omega
  ·have ih := filt_lt p p' l (fun z hz => h z (List.mem_cons_of_mem _ hz)) x hx h1 h2
   cases hz' : p' y with
   | true => simp [hz', h y List.mem_cons_self hz', ih]
   | false => cases hz : p y <;> simp [hz, hz'] <;> omega
section any
variable {E : Env} {A : Array Oper} {l : List Oper} {es : List (Option Eff)} {s0 s' : ASt}
theorem any_sound {ρ : Option Nat} (hρ : ρ = none ∨ l.all rfO = true) (hA : A.toList = l) (ht : Trace E l l es s0 s') (hc : Compat l es) {Q : Exit → Act → World → Prop} : ∀ (fuel : Nat) (listed : Array Bool), listed.size = l.length →
  (∀ i j, listed.getD i false = true → Bef l j i → listed.getD j false = true) →
  ((List.range l.length).filter fun i => !listed.getD i true).length ≤ fuel →
  ∀ {Z : Nat → Prop} {lb : Lb} {a : Act} {w : World}, St Z lb (resS (fun j => listed.getD j false) l es s0) a w →
  (∀ Z' lb' a' w', Stp Z lb w Z' lb' w' → St Z' lb' s' a' w' → a'.defers = a.defers → Q .normal a' w') → wpAnyIn (wd ρ) 0 E.P .any A Q fuel listed a w := by
 obtain ⟨hlen, hend, hget⟩ := ht.get
 have hsz : A.size = l.length := by rw [← hA, Array.length_toList]
 have hAi : ∀ i : Nat, A[i]? = l[i]? := fun i => by rw [← hA, Array.getElem?_toList]
 -- nothing is ready: all have come up
 have hdone : ∀ (listed : Array Bool), listed.size = l.length → Region.ready .any A listed = [] → ∀ i, i < l.length → listed.getD i false = true := by
  intro listed hls hr i
  induction i using Nat.strongRecOn with
  | _ i ih =>
   intro hi
   cases hli : listed.getD i false with
   | true => rfl
   | false =>
    exfalso
    have hmem : i ∈ Region.ready .any A listed := by
     unfold Region.ready
     refine List.mem_filter.2 ⟨by simpa [hsz] using hi, ?_⟩
     have h1 : listed.getD i true = false := by
      have hil : i < listed.size := by omega
      simpa [Array.getD, hil] using hli
     obtain ⟨o, ho⟩ : ∃ o, l[i]? = some o := ⟨l[i], by simp [hi]⟩
     simp only [h1, Bool.not_false, Bool.true_and, hAi, ho, Option.map_some, Option.getD_some]
     rw [← Array.all_toList, List.all_eq_true]
     intro g hg
     cases hb : Region.binds .any g with
     | false => rfl
     | true => simp only [Bool.not_true, Bool.false_or]; exact ih _ (hc.back i o ho g hg hb) (by have := hc.back i o ho g hg hb; omega)
    rw [hr] at hmem
    simp at hmem
 have hfin : ∀ (listed : Array Bool), listed.size = l.length → Region.ready .any A listed = [] → ∀ {Z : Nat → Prop} {lb : Lb} {a : Act} {w : World}, St Z lb (resS (fun j => listed.getD j false) l es s0) a w → St Z lb s' a w := by
  intro listed hls hr Z lb a w hs
  refine Same.st ?_ hs
  refine Same.trans (same_of_at (by rw [(resS_len _ _ _ _).2, (resS_len _ _ _ _).2]) fun x => ?_) hend.symm
  refine resS_agree x l es _ _ _ _ rfl rfl fun j o e h1 h2 _ => ?_
  exact hdone listed hls hr j (by
   rcases Nat.lt_or_ge j l.length with h' | h'
   ·exact h'
   ·simp [List.getElem?_eq_none h'] at h1)
 intro fuel
 induction fuel with
 | zero =>
  intro listed hls hcl hcount Z lb a w hs hQ
  have hall : ∀ i, i < l.length → listed.getD i true = true := by
   intro i hi
   cases hli : listed.getD i true with
   | true => rfl
   | false =>
    have : i ∈ (List.range l.length).filter fun i => !listed.getD i true := List.mem_filter.2 ⟨by simpa using hi, by simp [hli]⟩
    have h0 : (List.range l.length).filter (fun i => !listed.getD i true) = [] := List.length_eq_zero_iff.1 (by omega)
    rw [h0] at this
    simp at this
  have hr : Region.ready .any A listed = [] := by
   unfold Region.ready
   rw [List.filter_eq_nil_iff]
   intro i hi
   have := hall i (by simpa [hsz] using hi)
   simp [this]
  exact ⟨hr, hQ _ _ _ _ (Stp.refl _ _ _) (hfin listed hls hr hs) rfl⟩
 | succ fuel ih =>
  intro listed hls hcl hcount Z lb a w hs hQ
  refine ⟨fun hr => hQ _ _ _ _ (Stp.refl _ _ _) (hfin listed hls hr hs) rfl, fun i hi => ?_⟩
  unfold Region.ready at hi
  obtain ⟨hi1, hi2⟩ := List.mem_filter.1 hi
  have hil : i < l.length := by simpa [hsz] using hi1
  obtain ⟨o, ho⟩ : ∃ o, l[i]? = some o := ⟨l[i], by simp [hil]⟩
  obtain ⟨e, he⟩ : ∃ e, es[i]? = some e := ⟨es[i]'(by omega), by simp [show i < es.length by omega]⟩
  simp only [hAi, ho, Option.map_some, Option.getD_some, Bool.and_eq_true, Bool.not_eq_true'] at hi2
  obtain ⟨hun, hedges⟩ := hi2
  have hunf : listed.getD i false = false := by
   have hil' : i < listed.size := by omega
   simpa [Array.getD, hil'] using hun
  have hdirect : ∀ g, g ∈ o.after.toList → Region.binds .any g = true → listed.getD g.on false = true := by
   rw [← Array.all_toList, List.all_eq_true] at hedges
   intro g hg hb
   have := hedges g hg
   simpa [hb] using this
  have hbef : ∀ j, Bef l j i → listed.getD j false = true := by
   intro j hb
   cases hb with
   | one h hg hbn hj => rw [ho] at h; simp only [Option.some.injEq] at h; subst h; subst hj; exact hdirect _ hg hbn
   | more h hg hbn hj hk => rw [ho] at h; simp only [Option.some.injEq] at h; subst h; subst hj; exact hcl _ _ (hdirect _ hg hbn) hk
  have hlater : ∀ j, Bef l i j → listed.getD j false = false := by
   intro j hb
   cases hj : listed.getD j false with
   | false => rfl
   | true => have := hcl j i hj hb; rw [hunf] at this; simp at this
  obtain ⟨s₁, hrec, hsame⟩ := hget i o e ho he
  -- what it looks at is as it was in the text's order
  have hagree : ∀ x, Tc l o e x → (resS (fun j => listed.getD j false) l es s0).at x = s₁.at x := by
   intro x hx
   rw [hsame.at x]
   refine resS_agree x l es _ _ _ _ rfl rfl fun j oj ej h1 h2 hwr => ?_
   rcases Nat.lt_trichotomy j i with hlt | heq | hgt
   ·rw [decide_eq_true hlt]
    exact hbef j (hc.conf i j o oj e ej hlt ho h1 he h2 ⟨x, .inl ⟨hwr, hx⟩⟩)
   ·subst heq; rw [hunf]; simp
   ·rw [decide_eq_false (by omega)]
    exact hlater j (hc.conf j i oj o ej e hgt h1 ho h2 he ⟨x, .inr ⟨hwr, hx⟩⟩)
  have hL1 : (resS (fun j => listed.getD j false) l es s0).L.length = s₁.L.length := by
   rw [(resS_len _ _ _ _).1, show s₁.L.length = (resS (fun j => decide (j < i)) l es s0).L.length by rw [hsame.L], (resS_len _ _ _ _).1]
  have hn1 : (resS (fun j => listed.getD j false) l es s0).n = s₁.n := by rw [(resS_len _ _ _ _).2, hsame.1, (resS_len _ _ _ _).2]
  -- behind it
  have hnext : Same ((resS (fun j => listed.getD j false) l es s0).eff o e) (resS (fun j => (listed.setIfInBounds i true).getD j false) l es s0) := by
   have hset : ∀ j, (listed.setIfInBounds i true).getD j false = if j = i then true else listed.getD j false := by
    intro j
    by_cases hji : j = i
    ·subst hji
     have : j < listed.size := by omega
     simp [Array.getD, this]
    ·simp only [hji, if_false, Array.getD_eq_getD_getElem?, Array.getElem?_setIfInBounds_ne (fun hh => hji hh.symm)]
   refine same_of_at (by rw [(eff_len _ _ _).2, (resS_len _ _ _ _).2, (resS_len _ _ _ _).2]) fun x => ?_
   by_cases hx : Wr o e x
   ·have h1 : (resS (fun j => (listed.setIfInBounds i true).getD j false) l es s0).at x = (resS (fun j => decide (j < i + 1)) l es s0).at x := by
     refine resS_agree x l es _ _ _ _ rfl rfl fun j oj ej h1 h2 hwr => ?_
     rw [hset]
     rcases Nat.lt_trichotomy j i with hlt | heq | hgt
     ·rw [decide_eq_true (by omega), if_neg (by omega)]
      exact hbef j (hc.conf i j o oj e ej hlt ho h1 he h2 ⟨x, .inl ⟨hwr, hx.tc⟩⟩)
     ·subst heq; simp
     ·rw [decide_eq_false (by omega), if_neg (by omega)]
      exact hlater j (hc.conf j i oj o ej e hgt h1 ho h2 he ⟨x, .inr ⟨hwr, hx.tc⟩⟩)
    rw [h1, resS_succ l es i s0 o e ho he]
    exact eff_write (by rw [(resS_len _ _ _ _).1, (resS_len _ _ _ _).1]) hx
   ·rw [eff_other _ hx]
    refine resS_agree x l es _ _ _ _ rfl rfl fun j oj ej h1 h2 hwr => ?_
    rw [hset]
    by_cases hji : j = i
    ·subst hji
     rw [ho] at h1; rw [he] at h2
     simp only [Option.some.injEq] at h1 h2
     subst h1; subst h2
     exact absurd hwr hx
    ·rw [if_neg hji]
  have hstep : ∀ {Z' : Nat → Prop} {lb' : Lb} {a' : Act} {w' : World}, Stp Z lb w Z' lb' w' → St Z' lb' ((resS (fun j => listed.getD j false) l es s0).eff o e) a' w' → a'.defers = a.defers → wpAnyIn (wd ρ) 0 E.P .any A Q fuel (listed.setIfInBounds i true) a' w' := by
   intro Z' lb' a' w' st hs' hdf
   refine ih (listed.setIfInBounds i true) (by simpa using hls) ?_ ?_ (hnext.st hs') fun Z'' lb'' a'' w'' st' hs'' hdf' => hQ _ _ _ _ (st.trans st') hs'' (hdf'.trans hdf)
   ·have hset : ∀ j, (listed.setIfInBounds i true).getD j false = true ↔ (j = i ∨ listed.getD j false = true) := by
     intro j
     by_cases hji : j = i
     ·subst hji
      have : j < listed.size := by omega
      simp [Array.getD, this]
     ·simp only [hji, false_or, Array.getD_eq_getD_getElem?, Array.getElem?_setIfInBounds_ne (fun hh => hji hh.symm)]
    intro k j hk hb
    rw [hset] at hk ⊢
    rcases hk with rfl | hk
    ·exact .inr (hbef j hb)
    ·exact .inr (hcl k j hk hb)
   ·have := filt_lt (fun j => !listed.getD j true) (fun j => !(listed.setIfInBounds i true).getD j true) (List.range l.length) (fun j _ hj => by
      by_cases hji : j = i
      ·subst hji; simp [hun]
      ·simpa [Array.getD_eq_getD_getElem?, Array.getElem?_setIfInBounds_ne (fun hh => hji hh.symm)] using hj) i (by simpa using hil) (by simp [hun]) (by
      have : i < listed.size := by omega
      simp [Array.getD, this])
    omega
  unfold wpOpIn
  simp only [hAi, ho]
  have hw : Region.wanted o (yielded A a.tmps) = e.isSome := by
   rcases hrec.guard with ⟨h1, h3⟩ | ⟨d, want, b, h1, h3, h4⟩ | ⟨d, want, h1, h3, h4⟩
   ·rw [h3]; simp [Region.wanted, h1]
   ·have := hagree (.t d) (.inr (.inr ⟨want, h1⟩))
    simp only [ASt.at, Sum.inl.injEq] at this
    rw [wanted_guard hA h1 hs (this.trans h3), h4]
   ·have := hagree (.t d) (.inr (.inr ⟨want, h1⟩))
    simp only [ASt.at, Sum.inl.injEq] at this
    rw [wanted_undef hA h1 hs (this.trans h3), h4]
  rw [hw]
  cases e with
  | some e =>
   rw [if_pos (show (some e).isSome = true from rfl)]
   refine wp_in (rf_op hρ (List.mem_of_getElem? ho)) (hrec.run e rfl _ (by rw [hn1]; exact hrec.dst) ?_ ?_ Z lb a w hs _ _ fun Z' lb' a' w' st hs' hdf => hstep st hs' hdf)
   ·intro x hx
    cases x with
    | tmp d =>
     have := hagree (.t d) (.inr (.inl (by simpa using hx)))
     simpa [ASt.at, ev] using this
    | const v => cases v <;> rfl
    | _ => rfl
   ·intro k hk
    have := hagree (.o k) ⟨e, rfl, hk⟩
    simpa [ASt.at] using this
  | none =>
   rw [if_neg (by simp)]
   exact ⟨fun _ _ => trivial, hstep (Stp.refl _ _ _) (hs.put (Stp.refl _ _ _) hs.own (by rw [hn1]; exact hrec.dst) fun y hy => by cases hy; simp only [ARep, AReps]; exact ⟨[], rfl, rfl⟩) put_df⟩
end any
end Go.Ab
namespace Go.Ab
variable [Glob]
def elemN : Nat → List Nat → Bool
 | _, [] => false
 | x, y :: l => match Nat.beq x y with
  | true => true
  | false => elemN x l
theorem elemN_of : ∀ {x : Nat} {l : List Nat}, x ∈ l → elemN x l = true
 | x, y :: l, h => by
  simp only [elemN]
  split
  ·rfl
  ·rename_i hb
   rcases List.mem_cons.1 h with rfl | h
   ·simp at hb
   ·exact elemN_of h
def hasB (m j : Nat) : Bool := Nat.beq (Nat.land (Nat.shiftRight m j) 1) 1
theorem hasB_eq (m j : Nat) : hasB m j = m.testBit j := by
 have h : Nat.land (Nat.shiftRight m j) 1 = (m >>> j) % 2 := by
  show (m >>> j) &&& 1 = _
  rw [Nat.and_one_is_mod]
 unfold hasB
 rw [h, Nat.testBit_eq_decide_div_mod_eq, Nat.shiftRight_eq_div_pow, Bool.eq_iff_iff, decide_eq_true_iff]
 exact ⟨Nat.eq_of_beq_eq_true, fun h => by rw [h]; rfl⟩
def cloE (acc : List Nat) : List Edge → Nat
 | [] => 0
 | g :: r => match Region.binds .any g with
  | true => Nat.lor (Nat.lor (Nat.shiftLeft 1 g.on) (match nth acc g.on with | some l => l | none => 0)) (cloE acc r)
  | false => cloE acc r
def clos : List Oper → List Nat → List Nat
 | [], acc => acc
 | o :: r, acc => clos r (acc ++ [cloE acc o.after.toList])
theorem cloE_bef {l : List Oper} {acc : List Nat} (hacc : ∀ (i : Nat) c, acc[i]? = some c → ∀ j, hasB c j = true → Bef l j i) {i : Nat} {o : Oper} (ho : l[i]? = some o) : ∀ (gs : List Edge), (∀ g, g ∈ gs → g ∈ o.after.toList) → ∀ j, hasB (cloE acc gs) j = true → Bef l j i
 | [], _, j, h => by simp [cloE, hasB_eq] at h
 | g :: r, hg, j, h => by
  simp only [cloE] at h
  split at h
  ·rename_i hb
   rw [hasB_eq] at h
   replace h : ((1 <<< g.on ||| (match nth acc g.on with | some l => l | none => 0)) ||| cloE acc r).testBit j = true := h
   rw [Nat.testBit_or, Nat.testBit_or, Bool.or_eq_true, Bool.or_eq_true] at h
   rcases h with (h | h) | h
   ·rw [Nat.one_shiftLeft, Nat.testBit_two_pow, decide_eq_true_iff] at h
    subst h
    exact .one ho (hg g List.mem_cons_self) hb rfl
   ·split at h
    ·rename_i c hc
     rw [nth_eq] at hc
     exact .more ho (hg g List.mem_cons_self) hb rfl (hacc _ c hc j (by rw [hasB_eq]; exact h))
    ·simp at h
   ·exact cloE_bef hacc ho r (fun g' hg' => hg g' (List.mem_cons_of_mem _ hg')) j (by rw [hasB_eq]; exact h)
  ·exact cloE_bef hacc ho r (fun g' hg' => hg g' (List.mem_cons_of_mem _ hg')) j h
theorem clos_bef {l : List Oper} : ∀ (r : List Oper) (acc : List Nat), (∀ (j : Nat), r[j]? = l[acc.length + j]?) → (∀ (i : Nat) c, acc[i]? = some c → ∀ j, hasB c j = true → Bef l j i) → ∀ (i : Nat) c, (clos r acc)[i]? = some c → ∀ j, hasB c j = true → Bef l j i
 | [], acc, _, h, i, c, hc, j, hj => h i c hc j hj
 | o :: r, acc, hl, h, i, c, hc, j, hj => by
  refine clos_bef r (acc ++ [cloE acc o.after.toList]) (fun j => ?_) ?_ i c hc j hj
  ·have := hl (j + 1)
   simp only [List.getElem?_cons_succ] at this
   rw [this, List.length_append, List.length_singleton]
   congr 1; omega
  ·intro i' c' hc' j' hj'
   by_cases hi : i' < acc.length
   ·rw [List.getElem?_append_left hi] at hc'
    exact h i' c' hc' j' hj'
   ·rw [List.getElem?_append_right (by omega)] at hc'
    have h0 := hl 0
    simp only [List.getElem?_cons_zero, Nat.add_zero] at h0
    have : i' = acc.length := by
     rcases Nat.lt_or_ge (i' - acc.length) 1 with h1 | h1
     ·omega
     ·rw [List.getElem?_eq_none (by simpa using h1)] at hc'; simp at hc'
    subst this
    simp only [Nat.sub_self, List.getElem?_cons_zero, Option.some.injEq] at hc'
    subst hc'
    exact cloE_bef h h0.symm _ (fun _ h => h) j' hj'
def wtB (a b : FP) : Bool := match a.dst with
 | some d => match b.dst with
  | some e => Nat.beq d e || elemN d b.tr
  | none => elemN d b.tr
 | none => false
def woB (a b : FP) : Bool := a.wr.any fun k => elemN k b.rd || elemN k b.wr
def confB (a b : FP) : Bool := wtB a b || wtB b a || woB a b || woB b a
def chkRow (a : FP) (c : Nat) : Nat → List FP → Bool
 | _, [] => true
 | j, b :: r => match confB a b with
  | true => hasB c j && chkRow a c (j + 1) r
  | false => chkRow a c (j + 1) r
def backB (i : Nat) : List Edge → Bool
 | [] => true
 | g :: r => match Region.binds .any g with
  | true => Nat.blt g.on i && backB i r
  | false => backB i r
def chkAll : Nat → List Oper → List Nat → List FP → List FP → Bool
 | i, o :: ops, c :: cs, done, a :: todo => backB i o.after.toList && chkRow a c 0 done && chkAll (i + 1) ops cs (done ++ [a]) todo
 | _, [], _, _, [] => true
 | _, _, _, _, _ => false
def chkB (ops : List Oper) (fps : List FP) : Bool := chkAll 0 ops (clos ops []) [] fps.reverse
theorem backB_ok {i : Nat} : ∀ {gs : List Edge}, backB i gs = true → ∀ g, g ∈ gs → Region.binds .any g = true → g.on < i
 | [], _, g, hg, _ => by simp at hg
 | g' :: r, h, g, hg, hb => by
  simp only [backB] at h
  split at h
  ·rename_i hb'
   simp only [Bool.and_eq_true] at h
   rcases List.mem_cons.1 hg with rfl | hg
   ·exact Nat.le_of_ble_eq_true h.1
   ·exact backB_ok h.2 g hg hb
  ·rename_i hb'
   rcases List.mem_cons.1 hg with rfl | hg
   ·rw [hb] at hb'; simp at hb'
   ·exact backB_ok h g hg hb
theorem chkRow_ok {a : FP} {c : Nat} : ∀ {k : Nat} {l : List FP}, chkRow a c k l = true → ∀ (j : Nat) b, l[j]? = some b → confB a b = true → hasB c (k + j) = true
 | k, [], _, j, b, hb, _ => by simp at hb
 | k, b' :: r, h, j, b, hb, hc => by
  simp only [chkRow] at h
  cases j with
  | zero =>
   simp only [List.getElem?_cons_zero, Option.some.injEq] at hb
   subst hb
   rw [hc] at h
   simp only [Bool.and_eq_true] at h
   simpa using h.1
  | succ j =>
   have h' : chkRow a c (k + 1) r = true := by
    split at h
    ·simp only [Bool.and_eq_true] at h; exact h.2
    ·exact h
   have := chkRow_ok h' j b (by simpa using hb) hc
   rw [show k + (j + 1) = k + 1 + j by omega]; exact this
theorem chkAll_ok : ∀ {i : Nat} {ops : List Oper} {cs : List Nat} {done todo : List FP}, chkAll i ops cs done todo = true → done.length = i →
  (∀ (k : Nat) o, ops[k]? = some o → ∀ g, g ∈ o.after.toList → Region.binds .any g = true → g.on < i + k) ∧
  (∀ (k j : Nat) a b c, todo[k]? = some a → cs[k]? = some c → j < i + k → (done ++ todo)[j]? = some b → confB a b = true → hasB c j = true) ∧ todo.length = ops.length ∧ ops.length ≤ cs.length
 | i, [], cs, done, [], _, _ => ⟨by simp, by simp, rfl, by simp⟩
 | i, [], cs, done, a :: todo, h, _ => by simp [chkAll] at h
 | i, o :: ops, [], done, todo, h, _ => by cases todo <;> simp [chkAll] at h
 | i, o :: ops, c :: cs, done, [], h, _ => by simp [chkAll] at h
 | i, o :: ops, c :: cs, done, a :: todo, h, hd => by
  simp only [chkAll, Bool.and_eq_true] at h
  obtain ⟨⟨h1, h2⟩, h3⟩ := h
  obtain ⟨g1, g2, g3, g4⟩ := chkAll_ok h3 (by simp [hd])
  refine ⟨?_, ?_, by simp [g3], by simp [g4]⟩
  ·intro k o' ho g hg hb
   cases k with
   | zero =>
    simp only [List.getElem?_cons_zero, Option.some.injEq] at ho
    subst ho
    simpa using backB_ok h1 g hg hb
   | succ k =>
    have := g1 k o' (by simpa using ho) g hg hb
    omega
  ·intro k j a' b' c' ha hc hj hb hconf
   cases k with
   | zero =>
    simp only [List.getElem?_cons_zero, Option.some.injEq] at ha hc
    subst ha; subst hc
    rw [List.getElem?_append_left (by omega)] at hb
    simpa using chkRow_ok h2 j b' hb hconf
   | succ k =>
    refine g2 k j a' b' c' (by simpa using ha) (by simpa using hc) (by omega) ?_ hconf
    rw [← hb]; congr 1; simp
theorem fpsOf_eq (ops : List Oper) : ∀ (l : List Oper) (es : List (Option Eff)) (acc : List FP), es.length = l.length → (fpsOf ops l es acc) = ((l.zip es).map fun q => fpOf q.1 (gdst ops q.1) q.2).reverse ++ acc
 | [], es, acc, h => by cases es <;> simp_all [fpsOf]
 | o :: r, [], acc, h => by simp at h
 | o :: r, e :: es, acc, h => by
  have hstep : fpsOf ops (o :: r) (e :: es) acc = fpsOf ops r es (fpOf o (gdst ops o) e :: acc) := by
   cases hh : o.guard with
   | none => simp only [fpsOf, hh, gdst]
   | some q => simp only [fpsOf, hh]
  rw [hstep, fpsOf_eq ops r es _ (by simpa using h)]
  simp
theorem tmpsOf_mem : ∀ {l : List Operand} {d : Nat}, Operand.tmp d ∈ l → d ∈ tmpsOf l
 | .tmp t :: r, d, h => by
  simp only [tmpsOf]
  rcases List.mem_cons.1 h with h | h
  ·simp only [Operand.tmp.injEq] at h; subst h; exact List.mem_cons_self
  ·exact List.mem_cons_of_mem _ (tmpsOf_mem h)
 | .const v :: r, d, h => by
  simp only [tmpsOf]
  exact tmpsOf_mem (by simpa using h)
 | .global v :: r, d, h => by
  simp only [tmpsOf]
  exact tmpsOf_mem (by simpa using h)
 | .func v :: r, d, h => by
  simp only [tmpsOf]
  exact tmpsOf_mem (by simpa using h)
theorem tc_fp {ops : List Oper} {o : Oper} {e : Option Eff} {d : Nat} (h : Tc ops o e (.t d)) : (fpOf o (gdst ops o) e).dst = some d ∨ d ∈ (fpOf o (gdst ops o) e).tr := by
 simp only [Tc] at h
 rcases h with h | h | ⟨want, h⟩
 ·exact .inl h
 ·refine .inr ?_
  simp only [fpOf, List.mem_append]
  exact .inr (tmpsOf_mem (by simpa using h))
 ·refine .inr ?_
  simp only [fpOf, h, List.mem_append]
  exact .inl (by simp)
theorem conf_of {ops : List Oper} {oi oj : Oper} {ei ej : Option Eff} {x : Loc} (h : Wr oj ej x ∧ Tc ops oi ei x) : (wtB (fpOf oj (gdst ops oj) ej) (fpOf oi (gdst ops oi) ei) || woB (fpOf oj (gdst ops oj) ej) (fpOf oi (gdst ops oi) ei)) = true := by
 obtain ⟨h1, h2⟩ := h
 cases x with
 | t d =>
  have h1 : oj.dst = some d := h1
  rw [Bool.or_eq_true]
  refine .inl ?_
  rcases tc_fp h2 with h | h
  ·unfold wtB
   simp only [show (fpOf oj (gdst ops oj) ej).dst = some d from h1, h, Nat.beq_refl, Bool.true_or]
  ·unfold wtB
   simp only [show (fpOf oj (gdst ops oj) ej).dst = some d from h1, elemN_of h, Bool.or_true]
   split <;> rfl
 | o k =>
  obtain ⟨e1, rfl, hk⟩ := h1
  obtain ⟨e2, rfl, hk2⟩ := h2
  rw [Bool.or_eq_true]
  refine .inr ?_
  unfold woB
  rw [List.any_eq_true]
  refine ⟨k, hk, ?_⟩
  simp only [touch, List.mem_append] at hk2
  rcases hk2 with h | h
  ·simp only [fpOf, elemN_of h, Bool.true_or]
  ·simp only [fpOf, elemN_of h, Bool.or_true]
theorem compat_of {l : List Oper} {es : List (Option Eff)} (hl : es.length = l.length) (h : chkB l (fpsOf l l es []) = true) : Compat l es := by
 unfold chkB at h
 rw [fpsOf_eq l l es [] hl, List.append_nil, List.reverse_reverse] at h
 obtain ⟨h1, h2, h3, h4⟩ := chkAll_ok h rfl
 refine ⟨fun i o ho g hg hb => by simpa using h1 i o ho g hg hb, ?_⟩
 intro i j oi oj ei ej hj hi ho he1 he2 hx
 have hz : ∀ (k : Nat) o e, l[k]? = some o → es[k]? = some e → ((l.zip es).map fun q => fpOf q.1 (gdst l q.1) q.2)[k]? = some (fpOf o (gdst l o) e) := by
  intro k o e h1 h2
  have hzip : (l.zip es)[k]? = some (o, e) := List.getElem?_zip_eq_some.2 ⟨h1, h2⟩
  simp [List.getElem?_map, hzip]
 have hil : i < l.length := by
  rcases Nat.lt_or_ge i l.length with h' | h'
  ·exact h'
  ·simp [List.getElem?_eq_none h'] at hi
 obtain ⟨c, hc⟩ : ∃ c, (clos l [])[i]? = some c := ⟨(clos l [])[i]'(by omega), by simp [show i < (clos l []).length by omega]⟩
 have hmem := h2 i j _ _ c (hz i oi ei hi he1) hc (by omega) (by simpa using hz j oj ej ho he2) (by
  obtain ⟨x, hx | hx⟩ := hx
  ·have := conf_of hx
   unfold confB
   rw [Bool.or_eq_true] at this
   rcases this with h | h <;> simp [h]
  ·have := conf_of hx
   unfold confB
   rw [Bool.or_eq_true] at this
   rcases this with h | h <;> simp [h])
 exact clos_bef l [] (fun j => by simp) (by simp) i c hc j hmem
end Go.Ab
namespace Go.Ab
variable [Glob]
structure Ext (nb : Nat) (Z : Nat → Prop) (lb : Lb) (w : World) (Z' : Nat → Prop) (lb' : Lb) (w' : World) : Prop where
 os : w'.os = w.os
 tape : w'.tape = w.tape
 output : OutD w w'
 size : w.heap.size ≤ w'.heap.size
 keep : Keep Z w w'
 z1 : ∀ b, Z b → Z' b
 z2 : ∀ b, Z' b → b < w.heap.size → Z b ∨ ∃ i : Nat, lb[i]? = some (some (some b))
 bs : BsLe w w'
 hp : ∀ b, b < w.heap.size → (∀ i : Nat, lb[i]? ≠ some (some (some b))) → w'.heap[b]? = w.heap[b]?
 fresh : ∀ (i : Nat) b, lb'[i]? = some (some (some b)) → (∃ j : Nat, lb[j]? = some (some (some b))) ∨ (w.heap.size ≤ b ∧ b < w'.heap.size)
 kp : ∀ (i : Nat) x, i < nb → lb[i]? = some (some x) → lb'[i]? = some (some x)
theorem Ext.refl (nb : Nat) (Z : Nat → Prop) (lb : Lb) (w : World) : Ext nb Z lb w Z lb w :=
 ⟨rfl, rfl, OutD.refl _, Nat.le_refl _, fun _ _ => rfl, fun _ h => h, fun _ h _ => .inl h, fun _ _ => rfl, fun _ _ _ => rfl, fun i _ h => .inl ⟨i, h⟩, fun _ _ _ h => h⟩
theorem Stp.ext {Z Z' : Nat → Prop} {lb lb' : Lb} {w w' : World} (h : Stp Z lb w Z' lb' w') (nb : Nat) : Ext nb Z lb w Z' lb' w' :=
 ⟨h.os, h.tape, h.output, h.size, h.keep, h.z1, h.z2, h.bs, h.hp, h.fresh, fun i x _ hx => h.le i x hx⟩
theorem Ext.trans {nb : Nat} {Z Z₁ Z₂ : Nat → Prop} {lb lb₁ lb₂ : Lb} {w w₁ w₂ : World} (h : Ext nb Z lb w Z₁ lb₁ w₁) (k : Ext nb Z₁ lb₁ w₁ Z₂ lb₂ w₂) : Ext nb Z lb w Z₂ lb₂ w₂ where
 os := k.os.trans h.os
 tape := k.tape.trans h.tape
 output := k.output.trans h.output
 size := Nat.le_trans h.size k.size
 keep := fun b hb => (k.keep b (h.z1 b hb)).trans (h.keep b hb)
 z1 := fun b hb => k.z1 b (h.z1 b hb)
 z2 := fun b hb hlt => by
  rcases k.z2 b hb (Nat.lt_of_lt_of_le hlt h.size) with h1 | ⟨i, h1⟩
  ·exact h.z2 b h1 hlt
  ·rcases h.fresh i b h1 with h2 | h2
   ·exact .inr h2
   ·omega
 bs := fun b hb => (k.bs b (Nat.lt_of_lt_of_le hb h.size)).trans (h.bs b hb)
 hp := fun b hb hn => by
  refine (k.hp b (Nat.lt_of_lt_of_le hb h.size) fun i hi => ?_).trans (h.hp b hb hn)
  rcases h.fresh i b hi with ⟨j, h2⟩ | h2
  ·exact hn j h2
  ·omega
 fresh := fun i b hb => by
  rcases k.fresh i b hb with ⟨j, h1⟩ | h1
  ·rcases h.fresh j b h1 with h2 | ⟨h2, h3⟩
   ·exact .inl h2
   ·exact .inr ⟨h2, Nat.lt_of_lt_of_le h3 k.size⟩
  ·exact .inr ⟨Nat.le_trans h.size h1.1, h1.2⟩
 kp := fun i x hi hx => k.kp i x hi (h.kp i x hi hx)
structure StB (B : Nat) (Z : Nat → Prop) (lb : Lb) (s : ASt) (a : Act) (w : World) : Prop extends St Z lb s a w where
 bl : B ≤ w.heap.size
 ge : ∀ d, d ∈ a.defers → ∃ r, d.target = .collected r ∧ B ≤ r
theorem StB.to {B : Nat} {Z Z' : Nat → Prop} {lb lb' : Lb} {s s' : ASt} {a a' : Act} {w w' : World} (h : StB B Z lb s a w) (k : St Z' lb' s' a' w') (hd : a'.defers = a.defers) (hsz : w.heap.size ≤ w'.heap.size) : StB B Z' lb' s' a' w' :=
 ⟨k, Nat.le_trans h.bl hsz, by rw [hd]; exact h.ge⟩
def lift (nb : Nat) (B : Nat) (Z : Nat → Prop) (lb : Lb) (w : World) (Q : Exit → ASt → Prop) : Exit → Act → World → Prop :=
 fun ex a' w' => ∃ Z' lb' s', Ext nb Z lb w Z' lb' w' ∧ StB B Z' lb' s' a' w' ∧ Q ex s'
structure awp (P : Program) (nb : Nat) (c : Code) (Q : Exit → ASt → Prop) (s : ASt) (_ : Tag (c, Q) := ⟨⟩) : Prop where
 run : ∀ ρ, (ρ = none ∨ rf c = true) → ∀ B Z lb a w, StB B Z lb s a w → c.wpIn (wd ρ) 0 P (lift nb B Z lb w Q) a w
theorem rf_2 {ρ : Option Nat} {a b : Bool} (h : ρ = none ∨ (a && b) = true) : (ρ = none ∨ a = true) ∧ (ρ = none ∨ b = true) := by
 rcases h with h | h
 ·exact ⟨.inl h, .inl h⟩
 ·rw [Bool.and_eq_true] at h; exact ⟨.inr h.1, .inr h.2⟩
structure VX (E : Env) (ops l : List Oper) (r : Nat) (s : ASt) (f : List FP) (K : ASt → List FP → Prop) : Prop where
 run : vexec E ops l r s f K
theorem VX_eq : VX = vexec := by
 funext E ops l r s f K
 exact propext ⟨fun h => h.run, fun h => ⟨h⟩⟩
theorem lift_trans {nb B : Nat} {Z Z₁ : Nat → Prop} {lb lb₁ : Lb} {w w₁ : World} {Q : Exit → ASt → Prop} (h : Ext nb Z lb w Z₁ lb₁ w₁) {ex : Exit} {a' : Act} {w' : World} (k : lift nb B Z₁ lb₁ w₁ Q ex a' w') : lift nb B Z lb w Q ex a' w' := by
 obtain ⟨Z', lb', s', h1, h2, h3⟩ := k
 exact ⟨Z', lb', s', h.trans h1, h2, h3⟩
section rules
variable {P : Program} {nb : Nat} {Q : Exit → ASt → Prop} {s : ASt}
theorem awp_mono {c : Code} {Q' : Exit → ASt → Prop} (hq : ∀ e s, Q e s → Q' e s) (h : awp P nb c Q s) : awp P nb c Q' s :=
 ⟨fun ρ hρ B Z lb a w hs => wpIn_mono (h.run ρ hρ B Z lb a w hs) fun _ _ _ ⟨Z', lb', s', h1, h2, h3⟩ => ⟨Z', lb', s', h1, h2, hq _ _ h3⟩⟩
theorem zV (h : Q .normal s) : awp P nb .skip Q s := ⟨fun ρ hρ B Z lb _ _ hs => wpIn_skip ⟨Z, lb, s, Ext.refl _ _ _ _, hs, h⟩⟩
theorem zW {id : Nat} (h : Q (.exit id) s) : awp P nb (.exit id) Q s := ⟨fun ρ hρ B Z lb _ _ hs => wpIn_exit ⟨Z, lb, s, Ext.refl _ _ _ _, hs, h⟩⟩
theorem zX (h : Q .ret s) : awp P nb .ret Q s := ⟨fun ρ hρ B Z lb _ _ hs => wpIn_ret ⟨Z, lb, s, Ext.refl _ _ _ _, hs, h⟩⟩
def thenQ (P : Program) (nb : Nat) (y : Code) (Q : Exit → ASt → Prop) : Exit → ASt → Prop
 | .normal, s => awp P nb y Q s
 | e, s => Q e s
theorem zY {x y : Code} (h : awp P nb x (thenQ P nb y Q) s) : awp P nb (.seq x y) Q s := by
 refine ⟨fun ρ hρ B Z lb a w hs => ?_⟩
 obtain ⟨r1, r2⟩ := rf_2 hρ
 refine wpIn_seq (wpIn_mono (h.run ρ r1 B Z lb a w hs) ?_)
 rintro e a' w' ⟨Z', lb', s', h1, h2, h3⟩
 cases e with
 | normal => exact wpIn_mono (h3.run ρ r2 B Z' lb' a' w' h2) fun _ _ _ k => lift_trans h1 k
 | _ => exact ⟨Z', lb', s', h1, h2, h3⟩
theorem zU {c : Operand} {x y : Code} (h : withV (ev s.t c) fun | .p (.v (.bool b)) => fork b (awp P nb x Q s) (awp P nb y Q s) | _ => False) : awp P nb (.cond c x y) Q s := by
 refine ⟨fun ρ hρ B Z lb a w hs => ?_⟩
 obtain ⟨v, hv, h⟩ := withV_some h
 split at h
 ·rename_i b
  have := rep_v (ev_rep hs.toSt hv)
  obtain ⟨r1, r2⟩ := rf_2 hρ
  refine wpIn_cond this ?_
  cases b
  ·exact h.run.run ρ r2 B Z lb a w hs
  ·exact h.run.run ρ r1 B Z lb a w hs
 ·exact h.elim
def blockQ (id : Nat) (Q : Exit → ASt → Prop) : Exit → ASt → Prop
 | .exit id', s => match Nat.beq id' id with
  | true => Q .normal s
  | false => Q (.exit id') s
 | e, s => Q e s
theorem zT {id : Nat} {c : Code} (h : awp P nb c (blockQ id Q) s) : awp P nb (.block id c) Q s := by
 refine ⟨fun ρ hρ B Z lb a w hs => ?_⟩
 refine wpIn_block (wpIn_mono (h.run ρ hρ B Z lb a w hs) ?_)
 rintro e a' w' ⟨Z', lb', s', h1, h2, h3⟩
 cases e with
 | exit id' =>
  simp only [Exit.inBlock]
  simp only [blockQ] at h3
  split at h3
  ·rename_i hb
   rw [if_pos (Nat.eq_of_beq_eq_true hb)]
   exact ⟨Z', lb', s', h1, h2, h3⟩
  ·rename_i hb
   rw [if_neg (fun hh => by subst hh; simp at hb)]
   exact ⟨Z', lb', s', h1, h2, h3⟩
 | _ => exact ⟨Z', lb', s', h1, h2, h3⟩
def Wk (nb : Nat) (s s' : ASt) : Prop := ∀ Z lb a w, St Z lb s a w → ∃ Z' lb', Ext nb Z lb w Z' lb' w ∧ St Z' lb' s' a w
theorem Wk.refl (nb : Nat) (s : ASt) : Wk nb s s := fun Z lb _ _ h => ⟨Z, lb, Ext.refl _ _ _ _, h⟩
theorem Wk.trans {s₁ s₂ s₃ : ASt} (h : Wk nb s₁ s₂) (k : Wk nb s₂ s₃) : Wk nb s₁ s₃ := fun Z lb a w hs => by
 obtain ⟨Z', lb', h1, h2⟩ := h Z lb a w hs
 obtain ⟨Z'', lb'', h3, h4⟩ := k Z' lb' a w h2
 exact ⟨Z'', lb'', h1.trans h3, h4⟩
theorem r_weak {c : Code} {s' : ASt} (hw : Wk nb s s') (h : awp P nb c Q s') : awp P nb c Q s := by
 refine ⟨fun ρ hρ B Z lb a w hs => ?_⟩
 obtain ⟨Z', lb', h1, h2⟩ := hw Z lb a w hs.toSt
 exact wpIn_mono (h.run ρ hρ B Z' lb' a w (hs.to h2 rfl h1.size)) fun _ _ _ k => lift_trans h1 k
theorem awp_st {c : Code} {s' : ASt} (hst : ∀ Z lb a w, St Z lb s a w → St Z lb s' a w) (h : awp P nb c Q s') : awp P nb c Q s :=
 ⟨fun ρ hρ B Z lb a w hs => h.run ρ hρ B Z lb a w (hs.to (hst Z lb a w hs.toSt) rfl (Nat.le_refl _))⟩
def loopQ {α : Type} (nb : Nat) (I : α → ASt) (p : α → Prop) (m : α → Nat) (x : α) (Q : Exit → ASt → Prop) : Exit → ASt → Prop
 | .normal, s => ∃ y, p y ∧ m y < m x ∧ Wk nb s (I y)
 | e, s => Q e s
theorem r_loop {α : Type} {c : Code} (I : α → ASt) (p : α → Prop) (m : α → Nat) (x₀ : α) (h0 : p x₀) (hs0 : Wk nb s (I x₀)) (round : ∀ x, p x → awp P nb c (loopQ nb I p m x Q) (I x)) : awp P nb (.loop c) Q s := by
 refine ⟨fun ρ hρ B Z lb a w hs => ?_⟩
 have key : ∀ n x, m x < n → p x → ∀ Z' lb' a' w', Ext nb Z lb w Z' lb' w' → StB B Z' lb' (I x) a' w' → Code.roundsIn (wd ρ) 0 P c (lift nb B Z lb w Q) n a' w' := by
  intro n
  induction n with
  | zero => intro x hm; omega
  | succ n ih =>
   intro x hm hp Z' lb' a' w' hext hst
   rw [roundsIn_succ]
   refine wpIn_mono ((round x hp).run ρ hρ B Z' lb' a' w' hst) ?_
   rintro e a₁ w₁ ⟨Z₁, lb₁, s₁, g1, g2, g3⟩
   cases e with
   | normal =>
    obtain ⟨y, hy, hlt, hw⟩ := g3
    obtain ⟨Z₂, lb₂, g4, g5⟩ := hw Z₁ lb₁ a₁ w₁ g2.toSt
    exact ih y (by omega) hy Z₂ lb₂ a₁ w₁ ((hext.trans g1).trans g4) (g2.to g5 rfl g4.size)
   | _ => exact ⟨Z₁, lb₁, s₁, hext.trans g1, g2, g3⟩
 obtain ⟨Z', lb', h1, h2⟩ := hs0 Z lb a w hs.toSt
 exact wpIn_loop_rounds (m x₀ + 1) (key _ x₀ (by omega) h0 Z' lb' a w h1 (hs.to h2 rfl h1.size))
end rules
theorem Own.addHoles {Z : Nat → Prop} {lb : Lb} {L : List (Option Ob)} {w : World} (h : Own Z lb L w) (n : Nat) : Own Z (lb ++ List.replicate n none) (L ++ List.replicate n none) w ∧ ∀ nb, Ext nb Z lb w Z (lb ++ List.replicate n none) w := by
 have hget : ∀ {α : Type} (l : List (Option α)) (i : Nat) x, (l ++ List.replicate n none)[i]? = some (some x) → l[i]? = some (some x) := by
  intro α l i x hx
  by_cases hi : i < l.length
  ·rwa [List.getElem?_append_left hi] at hx
  ·rw [List.getElem?_append_right (by omega)] at hx
   have := List.mem_of_getElem? hx
   have := List.eq_of_mem_replicate this
   simp at this
 have hle : ∀ (i : Nat) x, lb[i]? = some (some x) → (lb ++ List.replicate n none)[i]? = some (some x) := by
  intro i x hx
  have hi : i < lb.length := by
   rcases Nat.lt_or_ge i lb.length with h' | h'
   ·exact h'
   ·simp [List.getElem?_eq_none h'] at hx
  rw [List.getElem?_append_left hi]; exact hx
 have hm : ∀ {ob : Ob} {x : Option Nat}, ObAt Z lb w ob x → ObAt Z (lb ++ List.replicate n none) w ob x := by
  intro ob x ho
  cases ob with
  | dead => trivial
  | var cs =>
   cases x with
   | none => exact ho
   | some b =>
    obtain ⟨h1, h2, vs, ty, fr, h3, h4⟩ := ho
    exact ⟨h1, h2, vs, ty, fr, AReps.mono (fun _ h => h) (fun _ _ => rfl) hle (fun _ _ => rfl) _ _ h3, h4⟩
  | mpx kk es cl =>
   cases x with
   | none => exact ho
   | some b => exact ho
  | it q since seen last =>
   cases x with
   | none => exact ho
   | some b =>
    obtain ⟨h1, h2, mo, h3, h4⟩ := ho
    exact ⟨h1, h2, mo, ARep.mono (fun _ h => h) (fun _ _ => rfl) hle (fun _ _ => rfl) _ _ h3, h4⟩
  | pvar m cs =>
   cases x with
   | none => exact ho
   | some b =>
    obtain ⟨h1, h2, vs, arr, ty, fr, h3, h4⟩ := ho
    exact ⟨h1, h2, vs, arr, ty, fr, AReps.mono (fun _ h => h) (fun _ _ => rfl) hle (fun _ _ => rfl) _ _ h3, h4⟩
  | lp l mk n ds cs =>
   cases x with
   | none => exact ho
   | some b =>
    obtain ⟨h1, h2, h2', vs, tm, h3, h4⟩ := ho
    exact ⟨h1, h2, h2', vs, tm, AReps.mono (fun _ h => h) (fun _ _ => rfl) hle (fun _ _ => rfl) _ _ h3, h4⟩
  | arr sz es =>
   cases x with
   | none => exact ho
   | some b => exact ho
  | bld T q =>
   cases x with
   | none => exact ho
   | some b =>
    obtain ⟨h1, h2, p, v, h3, h4, h5, h6⟩ := ho
    exact ⟨h1, h2, p, v, h3, h4, ARep.mono (fun _ h => h) (fun _ _ => rfl) hle (fun _ _ => rfl) _ _ h5, h6⟩
  | byt e bs =>
   cases x with
   | none => exact ho
   | some b => exact ho
  | mp kk ek =>
   cases x with
   | none => exact ho
   | some b => exact ho
 refine ⟨⟨by simp [h.len], fun i o hi => ?_, fun i hi => ?_, fun i j o o' b hi hj hl hl' hb hb' => h.inj i j o o' b (hget _ _ _ hi) (hget _ _ _ hj) hl hl' (hget _ _ _ hb) (hget _ _ _ hb'), h.zlt⟩, fun nb => ?_⟩
 ·obtain ⟨x, h1, h2⟩ := h.obj i o (hget _ _ _ hi)
  exact ⟨x, hle _ _ h1, hm h2⟩
 ·by_cases hil : i < L.length
  ·rw [List.getElem?_append_left hil] at hi
   rw [List.getElem?_append_left (by rw [h.len]; exact hil)]
   exact h.hole i hi
  ·rw [List.getElem?_append_right (by omega)] at hi
   rw [List.getElem?_append_right (by rw [h.len]; omega), h.len]
   have : i - L.length < n := by
    rcases Nat.lt_or_ge (i - L.length) n with h' | h'
    ·exact h'
    ·rw [List.getElem?_eq_none (by simpa using h')] at hi; simp at hi
   simp [this]
 ·exact ⟨rfl, rfl, OutD.refl _, Nat.le_refl _, fun _ _ => rfl, fun _ h => h, fun _ h _ => .inl h, fun _ _ => rfl, fun _ _ _ => rfl, fun i b hb => .inl ⟨i, hget _ _ _ hb⟩, fun i x _ hx => hle i x hx⟩
theorem St.addHoles {Z : Nat → Prop} {lb : Lb} {s : ASt} {a : Act} {w : World} (h : St Z lb s a w) (n : Nat) : St Z (lb ++ List.replicate n none) { s with L := addL s.L n } a w := by
 obtain ⟨h1, h2⟩ := h.own.addHoles n
 refine ⟨by rw [addL_eq]; exact h1, fun d x hx => ?_, h.df.core (h2 0).size (h2 0).z2 (h2 0).hp (h2 0).fresh, h.sz⟩
 obtain ⟨u, g1, g2⟩ := h.tm d x hx
 refine ⟨u, g1, ARep.mono (fun _ h => h) (fun _ _ => rfl) (fun i x hx => ?_) (fun _ _ => rfl) _ _ g2⟩
 have hi : i < lb.length := by
  rcases Nat.lt_or_ge i lb.length with h' | h'
  ·exact h'
  ·simp [List.getElem?_eq_none h'] at hx
 rw [List.getElem?_append_left hi]; exact hx
def lenL : List (Option Ob) → Nat
 | [] => 0
 | _ :: l => lenL l + 1
def regK (draw : Bool) (ops : List Oper) (K : ASt → Prop) : ASt → List FP → Prop := fun s fps => match draw with
 | true => chkB ops fps = true ∧ K s
 | false => K s
theorem zS {E : Env} {nb : Nat} {Q : Exit → ASt → Prop} {s : ASt} {id : Nat} {ops : List Oper} {draw : Bool} (h : VX E ops ops (lenL s.L) { s with L := addL s.L (holesOf ops) } [] (regK draw ops fun s => Q .normal s)) :
  awp E.P nb (.region id ops.toArray draw) Q s := by
 refine ⟨fun ρ hρ B Z lb a w hs => ?_⟩
 have hr0 : ρ = none ∨ ops.all rfO = true := hρ.imp (fun h => h) fun h => by simpa [rf] using h
 obtain ⟨es, s', ht, hK⟩ := vexec_trace E ops ops _ _ _ _ h.run
 have hs1 := hs.addHoles (holesOf ops)
 have hext := (hs.own.addHoles (holesOf ops)).2 nb
 cases draw with
 | false =>
  refine wpIn_region_list ?_
  refine seq_sound (ops := ops) (by simp) (by simpa using hr0) (by simpa using ht) hs1 fun Z' lb' a' w' st hs' hdf => ?_
  exact ⟨Z', lb', s', hext.trans (st.ext nb), hs.to hs' hdf st.size, hK⟩
 | true =>
  obtain ⟨hc, hK⟩ := hK
  have hcomp := compat_of ht.get.1 hc
  refine wpIn_region_any E.mixed ?_
  have hd : St Z (lb ++ List.replicate (holesOf ops) none) { s with L := addL s.L (holesOf ops) } a { w with drawn := w.drawn + 1 } :=
   ⟨hs1.own.heap rfl rfl rfl (od_drew _), fun d x hx => by
    obtain ⟨u, g1, g2⟩ := hs1.tm d x hx
    exact ⟨u, g1, (stp_heap (lb := lb ++ List.replicate (holesOf ops) none) rfl rfl rfl (od_drew _) : Stp Z _ w Z _ { w with drawn := w.drawn + 1 }).arep g2⟩, hs1.df.stp (stp_heap rfl rfl rfl (od_drew _)), hs1.sz⟩
  have st0 : Stp Z (lb ++ List.replicate (holesOf ops) none) w Z (lb ++ List.replicate (holesOf ops) none) { w with drawn := w.drawn + 1 } := stp_heap rfl rfl rfl (od_drew _)
  have hget : ∀ i, (Array.replicate ops.toArray.size false).getD i false = false := by
   intro i
   simp only [Array.getD_eq_getD_getElem?, Array.getElem?_replicate]
   split <;> rfl
  refine any_sound (l := ops) (Z := Z) (lb := lb ++ List.replicate (holesOf ops) none) hr0 (by simp) ht hcomp ops.toArray.size _ (by simp) (fun i j hi _ => by rw [hget] at hi; simp at hi) ?_ ?_ fun Z' lb' a' w' st hs' hdf => ?_
  ·refine Nat.le_trans (List.length_filter_le _ _) ?_
   simp
  ·rw [resS_none _ _ _ _ hget]; exact hd
  ·exact ⟨Z', lb', s', (hext.trans (st0.ext nb)).trans (st.ext nb), hs.to hs' hdf (Nat.le_trans st0.size st.size), hK⟩
end Go.Ab
namespace Go.Ab
variable [Glob]
structure Shut (B : Nat) (Z : Nat → Prop) (lb : Lb) (w w' : World) : Prop where
 os : w'.os = w.os
 tape : w'.tape = w.tape
 output : OutD w w'
 size : w'.heap.size = w.heap.size
 same : ∀ b, (b < B ∨ Z b ∨ ∃ i : Nat, lb[i]? = some (some (some b))) → w'.heap[b]? = w.heap[b]?
 bs : ∀ b, bsize w' b = bsize w b
theorem Shut.refl (B : Nat) (Z : Nat → Prop) (lb : Lb) (w : World) : Shut B Z lb w w := ⟨rfl, rfl, OutD.refl _, rfl, fun _ _ => rfl, fun _ => rfl⟩
theorem Shut.trans {B : Nat} {Z : Nat → Prop} {lb : Lb} {w w1 w2 : World} (h : Shut B Z lb w w1) (k : Shut B Z lb w1 w2) : Shut B Z lb w w2 :=
 ⟨k.os.trans h.os, k.tape.trans h.tape, k.output.trans h.output, k.size.trans h.size, fun b hb => (k.same b hb).trans (h.same b hb), fun b => (k.bs b).trans (h.bs b)⟩
theorem shut_one {B : Nat} {Z : Nat → Prop} {lb : Lb} {w : World} {r : Nat} (h0 : B ≤ r) (h1 : ¬ Z r) (h2 : w.heap[r]? = some (.deferred (some []))) (h3 : ∀ i : Nat, lb[i]? ≠ some (some (some r))) : Shut B Z lb w (w.putObj r (.deferred none)) where
 os := rfl
 tape := rfl
 output := ⟨rfl, fun _ => Nat.le_refl _⟩
 size := World.putObj_size
 same := fun b hb => World.putObj_heap_other fun e => by
  subst e
  rcases hb with h | h | ⟨i, h⟩
  ·omega
  ·exact h1 h
  ·exact h3 i h
 bs := fun b => by
  by_cases e : b = r
  ·subst e; unfold bsize; rw [World.putObj_heap_same (heap_lt h2), h2]
  ·unfold bsize; rw [World.putObj_heap_other e]
theorem leaves_marks {B : Nat} {Z : Nat → Prop} {lb : Lb} {n : Nat} {P : Program} {fn : Func} {tmps : Array Value} {R : Ending → World → Prop} : ∀ (ds : List Deferred) (w : World), Marks Z lb w ds → (∀ d, d ∈ ds → ∃ r, d.target = .collected r ∧ B ≤ r) →
  (∀ w', Shut B Z lb w w' → ∃ v, (results fn tmps).run P w' = .ok v w' ∧ R (.returned v) w') → LeavesInM Fence.wide n P fn tmps R ds .returning w
 | [], w, _, _, h => h w (Shut.refl _ _ _ _)
 | d :: ds, w, hm, hb, h => by
  obtain ⟨h0, rs, h1, h2, h3⟩ := hm
  cases rs with
  | nil => simp at h1
  | cons r rs =>
   simp only [List.map_cons, List.cons.injEq] at h1
   obtain ⟨ht, h1⟩ := h1
   obtain ⟨n1, n2⟩ := List.nodup_cons.1 h2
   obtain ⟨k1, k2, k3⟩ := h3 r List.mem_cons_self
   obtain ⟨r', e1, e2⟩ := hb d List.mem_cons_self
   rw [ht] at e1
   simp only [Target.collected.injEq] at e1
   subst e1
   have hs := shut_one e2 k1 k2 k3
   refine ⟨by simp, .inl ⟨r, _, ht, run_takeDeferred k2, leaves_marks ds _ ⟨fun i b hi => by rw [World.putObj_size]; exact h0 i b hi, rs, h1, n2, fun q hq => ?_⟩ (fun d hd => hb d (List.mem_cons_of_mem _ hd)) fun w' hw' => h w' (hs.trans hw')⟩⟩
   obtain ⟨g1, g2, g3⟩ := h3 q (List.mem_cons_of_mem _ hq)
   exact ⟨g1, (World.putObj_heap_other (fun e => by subst e; exact n1 hq)).trans g2, g3⟩
theorem calls_marks {P : Program} {f : FuncId} {fn : Func} {c : Code} {args : Array Value} {w : World} {R : Ending → World → Prop} (hf : P.funcs[f]? = some fn) (hb : fn.body = some c)
  (h : c.wpIn (wd none) 0 P (fun ex a' w' => (ex = .normal ∨ ex = .ret) ∧ ∃ B Z lb, Marks Z lb w' a'.defers ∧ (∀ d, d ∈ a'.defers → ∃ r, d.target = .collected r ∧ B ≤ r) ∧
   ∀ w'', Shut B Z lb w' w'' → ∃ v, (results fn a'.tmps).run P w'' = .ok v w'' ∧ R (.returned v) w'') { tmps := args ++ Array.replicate (fn.ntmps - args.size) undef, defers := [] } w) : Calls P f args w R := by
 refine callsIn_wide.1 (callsIn_of_wp_marks (F := Fence.wide) (n := 0) hf hb trivial (wpIn_mono h ?_))
 rintro ex a' w' ⟨he, B, Z, lb, hm, hg, hr⟩
 rcases he with rfl | rfl
 ·exact leaves_marks _ _ hm hg hr
 ·exact leaves_marks _ _ hm hg hr
theorem Own.shut {B : Nat} {Z : Nat → Prop} {lb : Lb} {L : List (Option Ob)} {w w' : World} (h : Own Z lb L w) (hs : Shut B Z lb w w') : Own Z lb L w' := by
 have hk : Keep Z w w' := fun b hb => hs.same b (.inr (.inl hb))
 have hb : BsLe w w' := fun b _ => hs.bs b
 refine ⟨h.len, fun i o hi => ?_, h.hole, h.inj, fun b hb => by rw [hs.size]; exact h.zlt.lt b hb, Glob.mono (fun _ h => h) hk h.zlt.gl⟩
 obtain ⟨x, h1, h2⟩ := h.obj i o hi
 refine ⟨x, h1, ?_⟩
 have hh : ∀ b, x = some b → w'.heap[b]? = w.heap[b]? := fun b e => hs.same b (.inr (.inr ⟨i, by rw [h1, e]⟩))
 cases x with
 | none => cases o <;> exact h2
 | some b =>
  have g := hh b rfl
  cases o with
  | dead => trivial
  | var cs =>
   obtain ⟨h1, h2, vs, ty, fr, h3, h4, h5, h6⟩ := h2
   exact ⟨h1, by rw [hs.size]; exact h2, vs, ty, fr, AReps.mono (fun _ h => h) hk (fun _ _ h => h) hb _ _ h3, h4, g.trans h5, h6⟩
  | lp l mk n ds cs =>
   obtain ⟨h1, h2, h2', vs, tm, h3, h4, h5, h6⟩ := h2
   exact ⟨h1, by rw [hs.size]; exact h2, h2', vs, tm, AReps.mono (fun _ h => h) hk (fun _ _ h => h) hb _ _ h3, h4, g.trans h5, h6⟩
  | mpx kk es cl => exact ⟨h2.1, by rw [hs.size]; exact h2.2.1, g.trans h2.2.2⟩
  | it q since seen last =>
   obtain ⟨h1, h2, mo, h3, h4⟩ := h2
   exact ⟨h1, by rw [hs.size]; exact h2, mo, ARep.mono (fun _ h => h) hk (fun _ _ h => h) hb _ _ h3, g.trans h4⟩
  | pvar m cs =>
   obtain ⟨h1, h2, vs, arr, ty, fr, h3, h4, h5, h6⟩ := h2
   exact ⟨h1, by rw [hs.size]; exact h2, vs, arr, ty, fr, AReps.mono (fun _ h => h) hk (fun _ _ h => h) hb _ _ h3, h4, g.trans h5, h6⟩
  | arr sz es =>
   obtain ⟨h1, h2, vs, arr, ty, fr, h3, h4, h5, h6, h7⟩ := h2
   exact ⟨h1, by rw [hs.size]; exact h2, vs, arr, ty, fr, Reps.mono (fun _ h => h) hk _ _ h3, h4, h5, g.trans h6, h7⟩
  | bld T q =>
   obtain ⟨h1, h2, p, v, h3, h4, h5, h6⟩ := h2
   refine ⟨h1, by rw [hs.size]; exact h2, p, v, g.trans h3, h4, ARep.mono (fun _ h => h) hk (fun _ _ h => h) hb _ _ h5, fun a n cap e => ?_⟩
   obtain ⟨k1, k2, k3⟩ := h6 a n cap e
   exact ⟨k1, by rw [hs.size]; exact k2, (hs.bs _).trans k3⟩
  | byt e bs =>
   obtain ⟨h1, h2, cur, fz, h3, h4⟩ := h2
   exact ⟨h1, by rw [hs.size]; exact h2, cur, fz, g.trans h3, h4⟩
  | mp kk ek =>
   obtain ⟨h1, h2, es, cl, h3, h4⟩ := h2
   exact ⟨h1, by rw [hs.size]; exact h2, es, cl, g.trans h3, h4⟩
theorem St.shut {B : Nat} {Z : Nat → Prop} {lb : Lb} {s : ASt} {a : Act} {w w' : World} (h : St Z lb s a w) (hs : Shut B Z lb w w') : St Z lb s { tmps := a.tmps, defers := [] } w' := by
 refine ⟨h.own.shut hs, fun d x hx => ?_, Marks.nil fun i b hi => by rw [hs.size]; exact h.df.1 i b hi, h.sz⟩
 obtain ⟨u, h1, h2⟩ := h.tm d x hx
 exact ⟨u, h1, ARep.mono (fun _ h => h) (fun b hb => hs.same b (.inr (.inl hb))) (fun _ _ h => h) (fun b _ => hs.bs b) _ _ h2⟩
theorem Ext.shut {nb : Nat} {Z Z' : Nat → Prop} {lb lb' : Lb} {w w' w'' : World} (h : Ext nb Z lb w Z' lb' w') (hs : Shut w.heap.size Z' lb' w' w'') : Ext nb Z lb w Z' lb' w'' where
 os := hs.os.trans h.os
 tape := hs.tape.trans h.tape
 output := hs.output.trans h.output
 size := by rw [hs.size]; exact h.size
 keep := fun b hb => (hs.same b (.inr (.inl (h.z1 b hb)))).trans (h.keep b hb)
 z1 := h.z1
 z2 := h.z2
 bs := fun b hb => (hs.bs b).trans (h.bs b hb)
 hp := fun b hb hn => (hs.same b (.inl hb)).trans (h.hp b hb hn)
 fresh := fun i b hi => by rw [hs.size]; exact h.fresh i b hi
 kp := h.kp
theorem calls_awp {P : Program} {f : FuncId} {fn : Func} {c : Code} {nb : Nat} {Q : Exit → ASt → Prop} {s : ASt} {Z : Nat → Prop} {lb : Lb} {args : Array Value} {w : World} {R : Ending → World → Prop} (hf : P.funcs[f]? = some fn) (hb : fn.body = some c)
  (h : awp P nb c Q s) (hst : St Z lb s { tmps := args ++ Array.replicate (fn.ntmps - args.size) undef, defers := [] } w)
  (hR : ∀ ex a' w' Z' lb' s', Ext nb Z lb w Z' lb' w' → St Z' lb' s' a' w' → a'.defers = [] → Q ex s' → (ex = .normal ∨ ex = .ret) ∧ ∃ v, (results fn a'.tmps).run P w' = .ok v w' ∧ R (.returned v) w') : Calls P f args w R := by
 have h0 : StB w.heap.size Z lb s { tmps := args ++ Array.replicate (fn.ntmps - args.size) undef, defers := [] } w := ⟨hst, Nat.le_refl _, fun d hd => by simp at hd⟩
 refine calls_marks hf hb (wpIn_mono (h.run none (.inl rfl) w.heap.size Z lb _ w h0) ?_)
 rintro ex a' w' ⟨Z', lb', s', h1, h2, h3⟩
 have key : ∀ w'', Shut w.heap.size Z' lb' w' w'' → _ := fun w'' hs => hR ex { tmps := a'.tmps, defers := [] } w'' Z' lb' s' (h1.shut hs) (h2.toSt.shut hs) rfl h3
 exact ⟨(key w' (Shut.refl _ _ _ _)).1, _, Z', lb', h2.df, h2.ge, fun w'' hs => (key w'' hs).2⟩
end Go.Ab
namespace Go.Ab
variable [Glob]
def memO : List (Option Nat) → Nat → Bool
 | [], _ => false
 | none :: r, j => memO r j
 | some i :: r, j => match Nat.beq i j with
  | true => true
  | false => memO r j
theorem memO_false : ∀ {σ : List (Option Nat)} {j : Nat}, memO σ j = false → some j ∉ σ
 | [], j, _ => by simp
 | none :: r, j, h => by
  simp only [memO] at h
  simp only [List.mem_cons, not_or]
  exact ⟨by simp, memO_false h⟩
 | some i :: r, j, h => by
  simp only [memO] at h
  split at h
  ·simp at h
  ·rename_i hb
   simp only [List.mem_cons, not_or]
   exact ⟨fun hh => by simp only [Option.some.injEq] at hh; subst hh; simp at hb, memO_false h⟩
mutual
def toPV (σ : List (Option Nat)) (L : List (Option Ob)) : AV → (PV → Prop) → Prop
 | .p x, k => k x
 | .sl j sz st n, k => withO (nth L j) fun
  | .arr sz' es => (Nat.beq sz sz' = true ∧ memO σ j = false) ∧ ∃ es', subE st n es = es' ∧ es'.length = n ∧ k (.view sz es')
  | _ => False
 | .agg cs, k => toPVs σ L cs fun l => k (.agg l)
 | .tup cs, k => toPVs σ L cs fun l => k (.tup l)
 | .fn f cs, k => toPVs σ L cs fun l => k (.fn f l)
 | _, _ => False
def toPVs (σ : List (Option Nat)) (L : List (Option Ob)) : List AV → (List PV → Prop) → Prop
 | [], k => k []
 | x :: xs, k => toPV σ L x fun y => toPVs σ L xs fun ys => k (y :: ys)
end
def frz (σ : List (Option Nat)) (L : List (Option Ob)) (lb : Lb) (Z : Nat → Prop) : Nat → Prop := fun b => Z b ∨ ∃ (i : Nat) (sz : Nat) (es : List PV), L[i]? = some (some (.arr sz es)) ∧ lb[i]? = some (some (some b)) ∧ some i ∉ σ
section frz
variable {σ : List (Option Nat)} {L : List (Option Ob)} {lb : Lb} {Z : Nat → Prop} {w : World} (ho : Own Z lb L w)
include ho
mutual
theorem toPV_rep : ∀ (x : AV) (u : Value) (k : PV → Prop), toPV σ L x k → ARep Z lb w x u → ∃ y, k y ∧ Rep (frz σ L lb Z) w y u
 | .p x, u, k, h, hr => ⟨x, h, Rep.mono (fun _ h => .inl h) (fun _ _ => rfl) _ _ (by simpa [ARep] using hr)⟩
 | .loc i off, u, k, h, hr => h.elim
 | .eloc i sz kk off, u, k, h, hr => h.elim
 | .mref i, u, k, h, hr => h.elim
 | .ifc _ _, u, k, h, hr => h.elim
 | .sl j sz st n, u, k, h, hr => by
  simp only [toPV] at h
  obtain ⟨o, hj, h⟩ := withO_some h
  rw [nth_eq] at hj
  split at h
  ·rename_i sz' es
   obtain ⟨⟨h1, h2⟩, es', h3, h4, h5⟩ := h
   have h1 := Nat.eq_of_beq_eq_true h1
   subst h1
   refine ⟨_, h5, ?_⟩
   rw [subE_eq] at h3
   simp only [ARep] at hr
   rcases hr with ⟨a1, a2, a3, rfl⟩ | ⟨b, cap, a1, rfl, a3, a4⟩
   ·subst a1 a2
    have : es' = [] := List.length_eq_zero_iff.1 h4
    subst this
    simp only [Rep]
    obtain ⟨x, k1, k2⟩ := ho.obj j _ hj
    rw [a3] at k1
    simp only [Option.some.injEq] at k1
    subst k1
    exact ⟨[], none, 0, rfl, rfl, k2.2, by simp, by simp, rfl, rfl⟩
   ·obtain ⟨vs, arr, ty, fr, g1, g2, g3, g4, g5, g6, g7, g8⟩ := obj_arr ho hj a1
    have hz : frz σ L lb Z b := .inr ⟨j, sz, es, hj, a1, memO_false h2⟩
    have hr2 := (g1.drop st).take n
    rw [h3] at hr2
    have hl := hr2.length
    simp only [Rep]
    refine ⟨_, some ⟨b, st * sz, none⟩, cap, Reps.mono (fun _ h => .inl h) (fun _ _ => rfl) _ _ hr2, by rw [hl, h4], g2, fun x hx => g3 x (List.mem_of_mem_drop (List.mem_of_mem_take hx)), ?_, ?_⟩
    ·rw [List.length_take, List.length_drop]; omega
    ·refine ⟨by rw [hl, h4]; exact a3, .inr ⟨rfl, hz, fun m v hm q c hq => ?_⟩⟩
     have hml : m < ((vs.drop st).take n).length := by
      rcases Nat.lt_or_ge m ((vs.drop st).take n).length with h' | h'
      ·exact h'
      ·simp [List.getElem?_eq_none h'] at hm
     rw [List.getElem?_take_of_lt (by simp at hml; omega), List.getElem?_drop] at hm
     have := g6 (st + m) v hm q c hq
     rw [← Nat.add_mul]
     simp [World.cell?, g4, this]
  ·exact h.elim
 | .agg cs, u, k, h, hr => by
  simp only [toPV] at h
  simp only [ARep] at hr
  obtain ⟨vs, h1, h2, h3⟩ := hr
  obtain ⟨ys, g1, g2⟩ := toPVs_rep cs vs _ h h1
  exact ⟨_, g1, by simp only [Rep]; exact ⟨vs, g2, h2, h3⟩⟩
 | .tup cs, u, k, h, hr => by
  simp only [toPV] at h
  simp only [ARep] at hr
  obtain ⟨vs, h1, h2⟩ := hr
  obtain ⟨ys, g1, g2⟩ := toPVs_rep cs vs _ h h1
  exact ⟨_, g1, by simp only [Rep]; exact ⟨vs, g2, h2⟩⟩
 | .fn f cs, u, k, h, hr => by
  simp only [toPV] at h
  simp only [ARep] at hr
  obtain ⟨vs, h1, h2⟩ := hr
  obtain ⟨ys, g1, g2⟩ := toPVs_rep cs vs _ h h1
  exact ⟨_, g1, by simp only [Rep]; exact ⟨vs, g2, h2⟩⟩
theorem toPVs_rep : ∀ (xs : List AV) (us : List Value) (k : List PV → Prop), toPVs σ L xs k → AReps Z lb w xs us → ∃ ys, k ys ∧ Reps (frz σ L lb Z) w ys us
 | [], us, k, h, hr => ⟨[], h, by simpa [AReps, Reps] using hr⟩
 | x :: xs, us, k, h, hr => by
  simp only [toPVs] at h
  simp only [AReps] at hr
  obtain ⟨u, us', rfl, h2, h3⟩ := hr
  obtain ⟨y, g1, g2⟩ := toPV_rep x u _ h h2
  obtain ⟨ys, g3, g4⟩ := toPVs_rep xs us' _ g1 h3
  exact ⟨_, g3, by simp only [Reps]; exact ⟨u, us', rfl, g2, g4⟩⟩
end
end frz
mutual
def PLe : PV → PV → Prop
 | .v x, y => match y with
  | .v z => x = z
  | .view sz es => x = .slice none 0 0 ∧ 0 < sz ∧ es = []
  | _ => False
 | .view sz es, y => match y with
  | .view sz' es' => sz = sz' ∧ es = es'
  | _ => False
 | .nview sz es, y => match y with
  | .view sz' es' => sz = sz' ∧ es = es'
  | .nview sz' es' => sz = sz' ∧ es = es'
  | _ => False
 | .agg cs, y => match y with
  | .agg ds => PLes cs ds
  | _ => False
 | .tup cs, y => match y with
  | .tup ds => PLes cs ds
  | _ => False
 | .fn f cs, y => match y with
  | .fn g ds => f = g ∧ PLes cs ds
  | _ => False
 | .eptr cs off, y => y = .eptr cs off
 | .ifc t x, y => match y with
  | .ifc t' x' => t = t' ∧ PLe x x'
  | _ => False
 | .rv g x, y => PLe x y ∨ y = .rv g x
def PLes : List PV → List PV → Prop
 | [], ds => ds = []
 | c :: cs, ds => match ds with
  | d :: ds => PLe c d ∧ PLes cs ds
  | [] => False
end
mutual
theorem ple_rep {Z : Nat → Prop} {w : World} : ∀ (x y : PV) (u : Value), PLe x y → Rep Z w x u → Rep Z w y u
 | .v x, y, u, h, hr => by
  simp only [PLe] at h
  split at h
  ·subst h; exact hr
  ·rename_i sz es
   obtain ⟨rfl, h2, rfl⟩ := h
   simp only [Rep] at hr ⊢
   obtain ⟨rfl, _⟩ := hr
   exact ⟨[], none, 0, rfl, rfl, h2, by simp, by simp, rfl, rfl⟩
  ·exact h.elim
 | .view sz es, y, u, h, hr => by
  simp only [PLe] at h
  split at h
  ·obtain ⟨rfl, rfl⟩ := h; exact hr
  ·exact h.elim
 | .nview sz es, y, u, h, hr => by
  simp only [PLe] at h
  split at h
  ·obtain ⟨rfl, rfl⟩ := h
   simp only [Rep] at hr ⊢
   obtain ⟨vs, a, cap, h1, h2⟩ := hr
   exact ⟨vs, some a, cap, h1, h2⟩
  ·obtain ⟨rfl, rfl⟩ := h; exact hr
  ·exact h.elim
 | .agg cs, y, u, h, hr => by
  simp only [PLe] at h
  split at h
  ·simp only [Rep] at hr ⊢
   obtain ⟨vs, h1, h2⟩ := hr
   exact ⟨vs, ples_rep cs _ vs h h1, h2⟩
  ·exact h.elim
 | .tup cs, y, u, h, hr => by
  simp only [PLe] at h
  split at h
  ·simp only [Rep] at hr ⊢
   obtain ⟨vs, h1, h2⟩ := hr
   exact ⟨vs, ples_rep cs _ vs h h1, h2⟩
  ·exact h.elim
 | .fn f cs, y, u, h, hr => by
  simp only [PLe] at h
  split at h
  ·obtain ⟨rfl, h⟩ := h
   simp only [Rep] at hr ⊢
   obtain ⟨vs, h1, h2⟩ := hr
   exact ⟨vs, ples_rep cs _ vs h h1, h2⟩
  ·exact h.elim
 | .eptr cs off, y, u, h, hr => by
  simp only [PLe] at h
  subst h; exact hr
 | .ifc t x, y, u, h, hr => by
  simp only [PLe] at h
  split at h
  ·obtain ⟨rfl, h⟩ := h
   simp only [Rep] at hr ⊢
   obtain ⟨v, h1, h2⟩ := hr
   exact ⟨v, ple_rep x _ v h h1, h2⟩
  ·exact h.elim
 | .rv g x, y, u, h, hr => by
  simp only [PLe] at h
  rcases h with h | rfl
  ·simp only [Rep] at hr; exact ple_rep x y u h hr.2.2.1
  ·exact hr
theorem ples_rep {Z : Nat → Prop} {w : World} : ∀ (xs ys : List PV) (us : List Value), PLes xs ys → Reps Z w xs us → Reps Z w ys us
 | [], ys, us, h, hr => by
  simp only [PLes] at h
  subst h; exact hr
 | x :: xs, ys, us, h, hr => by
  simp only [PLes] at h
  split at h
  ·simp only [Reps] at hr ⊢
   obtain ⟨u, us', rfl, h1, h2⟩ := hr
   exact ⟨u, us', rfl, ple_rep x _ u h.1 h1, ples_rep xs _ us' h.2 h2⟩
  ·exact h.elim
end
theorem ple_self : ∀ x : PV, PLe x x ∧ True
 | .v x => by simp [PLe]
 | .view sz es => by simp [PLe]
 | .nview sz es => by simp [PLe]
 | .agg cs => by simp only [PLe]; exact ⟨ples_self cs, trivial⟩
 | .tup cs => by simp only [PLe]; exact ⟨ples_self cs, trivial⟩
 | .fn f cs => by simp only [PLe]; exact ⟨⟨trivial, ples_self cs⟩, trivial⟩
 | .eptr cs off => by simp [PLe]
 | .ifc t x => by simp only [PLe]; exact ⟨⟨trivial, (ple_self x).1⟩, trivial⟩
 | .rv g x => by simp only [PLe]; exact ⟨.inr trivial, trivial⟩
where ples_self : ∀ xs : List PV, PLes xs xs
 | [] => by simp [PLes]
 | x :: xs => by simp only [PLes]; exact ⟨(ple_self x).1, ples_self xs⟩
theorem PLe_self (x : PV) : PLe x x = True := by simp [(ple_self x).1]
theorem PLes_self (x : List PV) : PLes x x = True := by simp [ple_self.ples_self x]
def initT : Nat → List PV → List (Nat × Option AV)
 | _, [] => []
 | i, x :: xs => (i, some (.p x)) :: initT (i + 1) xs
theorem initT_get : ∀ {l : List PV} {i d : Nat} {x : AV}, tget (initT i l) d = some x → ∃ y, x = .p y ∧ i ≤ d ∧ l[d - i]? = some y
 | [], i, d, x, h => by simp [initT, tget] at h
 | y :: l, i, d, x, h => by
  simp only [initT, tget] at h
  split at h
  ·rename_i hb
   have hb := Nat.eq_of_beq_eq_true hb
   subst hb
   simp only [Option.some.injEq] at h
   exact ⟨y, h.symm, Nat.le_refl _, by simp⟩
  ·obtain ⟨z, h1, h2, h3⟩ := initT_get h
   refine ⟨z, h1, by omega, ?_⟩
   rw [show d - i = (d - (i + 1)) + 1 by omega]
   simpa using h3
def resVal (E : Env) (s : ASt) : ResultVar → Option AV
 | .tmp t => tget s.t t
 | .cell a T => match tget s.t a, tfind E.tys T with
  | some (.loc k off), some i => match nth s.L k with
   | some (some (.var cs)) => loadFrom i cs off
   | _ => none
  | _, _ => none
def resVals (E : Env) (s : ASt) : List ResultVar → Option (List AV)
 | [] => some []
 | r :: rs => match resVal E s r, resVals E s rs with
  | some x, some xs => some (x :: xs)
  | _, _ => none
def resAll : List AV → AV
 | [x] => x
 | xs => .tup xs
def resF (tmps : Array Value) : ResultVar → Sem Value
 | .tmp t => pure (tmps.getD t undef)
 | .cell a t => do loadVar t (← asAddr (tmps.getD a undef))
theorem results_resF (fn : Func) (tmps : Array Value) : results fn tmps = (do
  let vs ← fn.results.mapM (resF tmps)
  pure (if h : vs.size = 1 then vs[0] else .tuple vs)) := rfl
theorem run_resVal {E : Env} {Z : Nat → Prop} {lb : Lb} {s : ASt} {a : Act} {w : World} (hs : St Z lb s a w) {r : ResultVar} {x : AV} (h : resVal E s r = some x) :
  ∃ u, (resF a.tmps r).run E.P w = .ok u w ∧ ARep Z lb w x u := by
 cases r with
 | tmp t =>
  obtain ⟨u, h1, h2⟩ := hs.tm t x h
  exact ⟨u, by simp [resF, Array.getD_eq_getD_getElem?, h1], h2⟩
 | cell ad T =>
  simp only [resVal] at h
  split at h
  ·rename_i k off i h1 h2
   split at h
   ·rename_i cs h3
    rw [nth_eq] at h3
    obtain ⟨u, g1, g2⟩ := hs.tm ad _ h1
    simp only [ARep] at g2
    obtain ⟨b, hb, rfl⟩ := g2
    obtain ⟨vs, ty, fr, c1, c2, c3, c4⟩ := obj_var hs.own h3 hb
    obtain ⟨d, inf, z, F⟩ := tyOf_some (E.ok T i h2)
    obtain ⟨u, hrun, hrep⟩ := run_loadFrom F (o := 0) c1 c2 (at_cells c3) h
    rw [Nat.zero_add] at hrun
    refine ⟨u, ?_, hrep⟩
    simp [resF, Array.getD_eq_getD_getElem?, g1, asAddr, hrun]
   ·simp at h
  ·simp at h
theorem run_resVals {E : Env} {Z : Nat → Prop} {lb : Lb} {s : ASt} {a : Act} {w : World} (hs : St Z lb s a w) : ∀ {rs : List ResultVar} {xs : List AV}, resVals E s rs = some xs →
  ∃ us, (rs.mapM (resF a.tmps)).run E.P w = .ok us w ∧ AReps Z lb w xs us
 | [], xs, h => by
  simp only [resVals, Option.some.injEq] at h
  subst h
  exact ⟨[], by simp, rfl⟩
 | r :: rs, xs, h => by
  simp only [resVals] at h
  split at h
  ·rename_i x xs' h1 h2
   simp only [Option.some.injEq] at h
   subst h
   obtain ⟨u, g1, g2⟩ := run_resVal hs h1
   obtain ⟨us, g3, g4⟩ := run_resVals hs h2
   refine ⟨u :: us, ?_, by simp only [AReps]; exact ⟨u, us, rfl, g2, g4⟩⟩
   rw [List.mapM_cons]
   simp only [Sem.run_bind, g1, Result.andThen_ok, g3, Sem.run_pure]
  ·simp at h
theorem run_results {E : Env} {Z : Nat → Prop} {lb : Lb} {s : ASt} {a : Act} {w : World} (hs : St Z lb s a w) {fn : Func} {xs : List AV} (h : resVals E s fn.results.toList = some xs) :
  ∃ u, (results fn a.tmps).run E.P w = .ok u w ∧ ARep Z lb w (resAll xs) u := by
 obtain ⟨us, h1, h2⟩ := run_resVals hs h
 have hl := h2.length
 refine ⟨(if h : us.toArray.size = 1 then us.toArray[0] else .tuple us.toArray), ?_, ?_⟩
 ·rw [results_resF, Array.mapM_eq_mapM_toList]
  simp only [Sem.run_bind, Sem.run_map, h1, Result.andThen_ok, Sem.run_pure]
 ·match xs, us, hl, h2 with
  | [], [], _, h2 => simp [resAll, ARep, AReps]
  | [x], [u], _, h2 =>
   simp only [AReps] at h2
   obtain ⟨u', us', he, h3, _⟩ := h2
   simp only [List.cons.injEq] at he
   obtain ⟨rfl, _⟩ := he
   simpa [resAll] using h3
  | x :: y :: xs, u :: v :: us, _, h2 =>
   have : ¬ (u :: v :: us).toArray.size = 1 := by simp
   rw [dif_neg this]
   simp only [resAll, ARep]
   exact ⟨_, h2, rfl⟩
def endQ (E : Env) (rs : List ResultVar) (r : PV) : Exit → ASt → Prop
 | .normal, s => withC (resVals E s rs) fun xs => toPV [] s.L (resAll xs) fun y => PLe y r
 | .ret, s => withC (resVals E s rs) fun xs => toPV [] s.L (resAll xs) fun y => PLe y r
 | _, _ => False
theorem yB {E : Env} {f : FuncId} {fn : Func} {c : Code} {args : List PV} {r : PV} (n : Nat) (rs : List ResultVar) (hf : E.P.funcs[f]? = some fn) (hb : fn.body = some c) (hnt : fn.ntmps = n) (hrs : fn.results.toList = rs) (hname : (fn.name == "runtime.NumGoroutine") = false) (hn : Nat.ble args.length n = true)
  (h : awp E.P 0 c (endQ E rs r) ⟨n, initT 0 args, []⟩) : PCalls E.P f args r := by
 subst hnt
 subst hrs
 refine ⟨⟨fn, hf, by rw [hb]; rfl, hname⟩, fun Z w vals hz hr => ?_⟩
 have hn := Nat.le_of_ble_eq_true hn
 have hlen := hr.length
 have hst : St Z [] ⟨fn.ntmps, initT 0 args, []⟩ { tmps := vals.toArray ++ Array.replicate (fn.ntmps - vals.toArray.size) undef, defers := [] } w := by
  refine ⟨⟨rfl, by simp, by simp, by simp, hz⟩, ?_, Marks.nil (fun i b hi => by simp at hi), by simp; omega⟩
  intro d x hx
  obtain ⟨y, rfl, _, hy⟩ := initT_get hx
  rw [Nat.sub_zero] at hy
  obtain ⟨u, h1, h2⟩ := hr.get d y hy
  have hdl : d < vals.length := by
   rcases Nat.lt_or_ge d vals.length with h' | h'
   ·exact h'
   ·simp [List.getElem?_eq_none h'] at h1
  refine ⟨u, ?_, by simpa [ARep] using h2⟩
  rw [Array.getElem?_append_left (by simpa using hdl)]
  simpa using h1
 refine calls_awp hf hb h hst ?_
 rintro ex a' w' Z' lb' s' h1 h2 hdf h3
 have fin : withC (resVals E s' fn.results.toList) (fun xs => toPV [] s'.L (resAll xs) fun y => PLe y r) → a'.defers = [] ∧ ∃ v, (results fn a'.tmps).run E.P w' = .ok v w' ∧ ∃ u Z', Ending.returned v = .returned u ∧ Stp Z [] w Z' [] w' ∧ ZOk Z' w' ∧ Rep Z' w' r u := by
  intro h3
  obtain ⟨xs, hxs, h3⟩ := withC_some h3
  obtain ⟨u, hrun, hrep⟩ := run_results h2 hxs
  obtain ⟨y, hyr, hy⟩ := toPV_rep h2.own _ _ _ h3 hrep
  refine ⟨hdf, u, hrun, u, frz [] s'.L lb' Z', rfl, ?_, ?_, ple_rep _ _ _ hyr hy⟩
  ·have hfr : ∀ b, frz [] s'.L lb' Z' b → b < w.heap.size → Z b := by
    intro b hb hlt
    rcases hb with hb | ⟨i, sz, es, k1, k2, _⟩
    ·rcases h1.z2 b hb hlt with h | ⟨i, h⟩
     ·exact h
     ·simp at h
    ·rcases h1.fresh i b k2 with ⟨j, h⟩ | h
     ·simp at h
     ·omega
   exact ⟨h1.os, h1.tape, h1.output, h1.size, h1.keep, fun b hb => .inl (h1.z1 b hb), fun b hb hlt => .inl (hfr b hb hlt), h1.bs, fun b hb _ => h1.hp b hb (by simp), fun _ _ h => h, fun i b h => by simp at h, rfl⟩
  ·refine ⟨fun b hb => ?_, Glob.mono (fun _ h => .inl h) (fun _ _ => rfl) h2.own.zlt.gl⟩
   rcases hb with hb | ⟨i, sz, es, k1, k2, _⟩
   ·exact h2.own.zlt.lt b hb
   ·obtain ⟨x, k3, k4⟩ := h2.own.obj i _ k1
    rw [k2] at k3
    simp only [Option.some.injEq] at k3
    subst k3
    exact k4.2.1
 cases ex with
 | normal => exact ⟨.inl rfl, (fin h3).2⟩
 | ret => exact ⟨.inr rfl, (fin h3).2⟩
 | _ => exact h3.elim
end Go.Ab
namespace Go.Ab
variable [Glob]
mutual
def pvF : PV → Prop
 | .view _ es => es.length ≤ big
 | .nview _ es => es.length ≤ big
 | .agg cs => pvFs cs
 | .tup cs => pvFs cs
 | .eptr cs _ => pvFs cs
 | _ => True
def pvFs : List PV → Prop
 | [] => True
 | c :: cs => pvF c ∧ pvFs cs
end
mutual
theorem rep_pvF {Z : Nat → Prop} {w : World} : ∀ (x : PV) (u : Value), Rep Z w x u → pvF x
 | .v x, u, h => trivial
 | .view sz es, u, h => by
  simp only [Rep] at h
  obtain ⟨vs, base, cap, h1, h2, h3, h4, h5, h6⟩ := h
  simp only [pvF]
  have := h1.length
  omega
 | .nview sz es, u, h => by
  simp only [Rep] at h
  obtain ⟨vs, base, cap, h1, h2, h3, h4, h5, h6⟩ := h
  simp only [pvF]
  have := h1.length
  omega
 | .agg cs, u, h => by
  simp only [Rep] at h
  obtain ⟨vs, h1, h2⟩ := h
  exact reps_pvF cs vs h1
 | .tup cs, u, h => by
  simp only [Rep] at h
  obtain ⟨vs, h1, h2⟩ := h
  exact reps_pvF cs vs h1
 | .eptr cs off, u, h => by
  simp only [Rep] at h
  obtain ⟨vs, b, o, h1, h2⟩ := h
  exact reps_pvF cs vs h1
 | .fn f cs, u, h => trivial
 | .ifc t x, u, h => trivial
 | .rv g x, u, h => trivial
theorem reps_pvF {Z : Nat → Prop} {w : World} : ∀ (xs : List PV) (us : List Value), Reps Z w xs us → pvFs xs
 | [], us, h => trivial
 | x :: xs, us, h => by
  simp only [Reps] at h
  obtain ⟨u, us', rfl, h1, h2⟩ := h
  exact ⟨rep_pvF x u h1, reps_pvF xs us' h2⟩
end
theorem yD {P : Program} {f : FuncId} {args : List PV} {r : PV} (hc : Callable P f) (h : pvFs args → PCalls P f args r) : PCalls P f args r :=
 ⟨hc, fun Z w vals hz hr => (h (reps_pvF _ _ hr)).2 Z w vals hz hr⟩
mutual
def wkv (σ : List (Option Nat)) (L : List (Option Ob)) : AV → AV → Prop
 | .p y', x => toPV σ L x fun y => PLe y y'
 | .loc i off, x => match x with
  | .loc j off' => nth σ i = some (some j) ∧ off' = off
  | _ => False
 | .eloc i sz k off, x => match x with
  | .eloc j sz' k' off' => nth σ i = some (some j) ∧ sz' = sz ∧ k' = k ∧ off' = off
  | _ => False
 | .sl i sz st n, x => match x with
  | .sl j sz' st' n' => nth σ i = some (some j) ∧ sz' = sz ∧ st' = st ∧ n' = n
  | .p (.v v) => nth σ i = some none ∧ v = .slice none 0 0 ∧ st = 0 ∧ n = 0
  | _ => False
 | .mref i, x => match x with
  | .mref j => nth σ i = some (some j)
  | _ => False
 | .agg cs', x => match x with
  | .agg cs => wkvs σ L cs' cs
  | _ => False
 | .tup cs', x => match x with
  | .tup cs => wkvs σ L cs' cs
  | _ => False
 | .fn f' cs', x => match x with
  | .fn f cs => f = f' ∧ wkvs σ L cs' cs
  | _ => False
 | .ifc t' x', x => match x with
  | .ifc t y => t = t' ∧ wkv σ L x' y
  | _ => False
def wkvs (σ : List (Option Nat)) (L : List (Option Ob)) : List AV → List AV → Prop
 | [], xs => xs = []
 | y :: ys, xs => match xs with
  | x :: xs => wkv σ L y x ∧ wkvs σ L ys xs
  | [] => False
end
def wkOb (σ : List (Option Nat)) (L : List (Option Ob)) : Option Nat → Ob → Prop
 | some j, ob' => withO (nth L j) fun ob => match ob' with
  | .var cs' => (match ob with
   | .var cs => wkvs σ L cs' cs
   | _ => False)
  | .arr sz' es' => (match ob with
   | .arr sz es => sz = sz' ∧ (es = es' ∨ es' = [])
   | _ => False)
  | .bld T' q' => (match ob with
   | .bld T q => T = T' ∧ wkv σ L q' q
   | _ => False)
  | .byt e' bs' => (match ob with
   | .byt e bs => e = e' ∧ bs = bs'
   | _ => False)
  | .mp kk' ek' => (match ob with
   | .mp kk ek => kk = kk' ∧ ek = ek'
   | _ => False)
  | .mpx kk' es' cl' => (match ob with
   | .mpx kk es cl => kk = kk' ∧ es = es' ∧ cl = cl'
   | _ => False)
  | .it q' since' seen' last' => (match ob with
   | .it q since seen last => since = since' ∧ seen = seen' ∧ last = last' ∧ wkv σ L q' q
   | _ => False)
  | .pvar m' cs' => (match ob with
   | .pvar m cs => m = m' ∧ wkvs σ L cs' cs
   | _ => False)
  | .lp l' mk' n' ds' cs' => (match ob with
   | .lp l mk n ds cs => l = l' ∧ mk = mk' ∧ n = n' ∧ ds = ds' ∧ wkvs σ L cs' cs
   | _ => False)
  | .dead => True
 | none, ob' => match ob' with
  | .arr sz es => 0 < sz ∧ es = []
  | .byt _ bs => bs = []
  | .dead => True
  | _ => False
def wkL (σ : List (Option Nat)) (L : List (Option Ob)) : List (Option Nat) → List (Option Ob) → Prop
 | [], L' => L' = []
 | s :: r, L' => match L' with
  | some ob' :: L' => wkOb σ L s ob' ∧ wkL σ L r L'
  | _ => False
def wkT (σ : List (Option Nat)) (L : List (Option Ob)) (t : List (Nat × Option AV)) : List (Nat × Option AV) → Prop
 | [] => True
 | (d, some x') :: r => (withV (tget t d) fun x => wkv σ L x' x) ∧ wkT σ L t r
 | (_, none) :: r => wkT σ L t r
def nodupO : List (Option Nat) → Bool
 | [] => true
 | none :: r => nodupO r
 | some i :: r => match memO r i with
  | true => false
  | false => nodupO r
def liveS : List (Option Nat) → List (Option Ob) → List (Option Nat)
 | [], _ => []
 | x :: r, [] => x :: liveS r []
 | x :: r, o :: L => (match o with
  | some .dead => none
  | _ => x) :: liveS r L
theorem liveS_get : ∀ {σ : List (Option Nat)} {L : List (Option Ob)} {i j : Nat} {o : Ob}, σ[i]? = some (some j) → L[i]? = some (some o) → o.live → (liveS σ L)[i]? = some (some j)
 | [], _, _, _, _, h, _, _ => by simp at h
 | _ :: _, [], _, _, _, _, h, _ => by simp at h
 | x :: r, q :: L, 0, j, o, h, h2, h3 => by
  simp only [List.getElem?_cons_zero, Option.some.injEq] at h h2
  subst h; subst h2
  simp only [liveS, List.getElem?_cons_zero]
  cases o <;> first | rfl | exact h3.elim
 | x :: r, q :: L, i + 1, j, o, h, h2, h3 => by
  simp only [liveS, List.getElem?_cons_succ] at h h2 ⊢
  exact liveS_get h h2 h3
def keepN : Nat → Nat → List (Option Nat) → Prop
 | 0, _, _ => True
 | n + 1, i, σ => match σ with
  | s :: r => s = some i ∧ keepN n (i + 1) r
  | [] => False
theorem keepN_get : ∀ {n i : Nat} {σ : List (Option Nat)}, keepN n i σ → ∀ k : Nat, k < n → σ[k]? = some (some (i + k))
 | 0, i, σ, _, k, hk => by omega
 | n + 1, i, [], h, k, hk => h.elim
 | n + 1, i, s :: r, h, k, hk => by
  obtain ⟨h1, h2⟩ := h
  cases k with
  | zero => simp [h1]
  | succ k =>
   have := keepN_get h2 k (by omega)
   simp only [List.getElem?_cons_succ, this]
   congr 2; omega
theorem nodupO_idx : ∀ {σ : List (Option Nat)}, nodupO σ = true → ∀ {i i' j : Nat}, σ[i]? = some (some j) → σ[i']? = some (some j) → i = i'
 | [], _, i, i', j, h, _ => by simp at h
 | none :: r, hn, i, i', j, h, h' => by
  simp only [nodupO] at hn
  cases i with
  | zero => simp at h
  | succ i => cases i' with
   | zero => simp at h'
   | succ i' => exact congrArg Nat.succ (nodupO_idx hn (by simpa using h) (by simpa using h'))
 | some s :: r, hn, i, i', j, h, h' => by
  simp only [nodupO] at hn
  split at hn
  ·simp at hn
  ·rename_i hm
   have hm := memO_false hm
   cases i with
   | zero => cases i' with
    | zero => rfl
    | succ i' =>
     simp at h h'
     subst h
     exact absurd (List.mem_of_getElem? h') hm
   | succ i => cases i' with
    | zero =>
     simp at h h'
     subst h'
     exact absurd (List.mem_of_getElem? h) hm
    | succ i' => exact congrArg Nat.succ (nodupO_idx hn (by simpa using h) (by simpa using h'))
def lbSel (σ : List (Option Nat)) (lb : Lb) : Lb := σ.map fun
 | some j => (match lb[j]? with | some x => x | none => none)
 | none => some none
theorem lbSel_some {σ : List (Option Nat)} {lb : Lb} {i j : Nat} (h : σ[i]? = some (some j)) {x : Option Nat} (hx : lb[j]? = some (some x)) : (lbSel σ lb)[i]? = some (some x) := by simp [lbSel, h, hx]
theorem lbSel_none {σ : List (Option Nat)} {lb : Lb} {i : Nat} (h : σ[i]? = some none) : (lbSel σ lb)[i]? = some (some none) := by simp [lbSel, h]
theorem lbSel_back {σ : List (Option Nat)} {lb : Lb} {i b : Nat} (h : (lbSel σ lb)[i]? = some (some (some b))) : ∃ j, σ[i]? = some (some j) ∧ lb[j]? = some (some (some b)) := by
 simp only [lbSel, List.getElem?_map] at h
 cases hj : σ[i]? with
 | none => simp [hj] at h
 | some s =>
  cases s with
  | none => simp [hj] at h
  | some j =>
   refine ⟨j, rfl, ?_⟩
   simp only [hj, Option.map_some, Option.some.injEq] at h
   split at h
   ·rename_i y hy; rw [hy, h]
   ·simp at h
section wk
variable {σ : List (Option Nat)} {L : List (Option Ob)} {lb : Lb} {Z : Nat → Prop} {w : World}
mutual
theorem wkv_rep (ho : Own Z lb L w) : ∀ (x' x : AV) (u : Value), wkv σ L x' x → ARep Z lb w x u → ARep (frz σ L lb Z) (lbSel σ lb) w x' u
 | .p y', x, u, h, hr => by
  simp only [wkv] at h
  obtain ⟨y, h1, h2⟩ := toPV_rep ho x u _ h hr
  simp only [ARep]
  exact ple_rep _ _ _ h1 h2
 | .loc i off, x, u, h, hr => by
  simp only [wkv] at h
  split at h
  ·obtain ⟨h1, rfl⟩ := h
   rw [nth_eq] at h1
   simp only [ARep] at hr ⊢
   obtain ⟨b, h2, h3⟩ := hr
   exact ⟨b, lbSel_some h1 h2, h3⟩
  ·exact h.elim
 | .mref i, x, u, h, hr => by
  simp only [wkv] at h
  split at h
  ·rw [nth_eq] at h
   simp only [ARep] at hr ⊢
   obtain ⟨b, h2, h3⟩ := hr
   exact ⟨b, lbSel_some h h2, h3⟩
  ·exact h.elim
 | .eloc i sz k off, x, u, h, hr => by
  simp only [wkv] at h
  split at h
  ·obtain ⟨h1, rfl, rfl, rfl⟩ := h
   rw [nth_eq] at h1
   simp only [ARep] at hr ⊢
   obtain ⟨b, h2, h3⟩ := hr
   exact ⟨b, lbSel_some h1 h2, h3⟩
  ·exact h.elim
 | .sl i sz st n, x, u, h, hr => by
  simp only [wkv] at h
  split at h
  ·obtain ⟨h1, rfl, rfl, rfl⟩ := h
   rw [nth_eq] at h1
   simp only [ARep] at hr ⊢
   rcases hr with ⟨a1, a2, a3, a4⟩ | ⟨b, cap, a1, a2⟩
   ·exact .inl ⟨a1, a2, lbSel_some h1 a3, a4⟩
   ·exact .inr ⟨b, cap, lbSel_some h1 a1, a2⟩
  ·obtain ⟨h1, rfl, rfl, rfl⟩ := h
   rw [nth_eq] at h1
   simp only [ARep, Rep] at hr ⊢
   exact .inl ⟨trivial, trivial, lbSel_none h1, hr.1⟩
  ·exact h.elim
 | .agg cs', x, u, h, hr => by
  simp only [wkv] at h
  split at h
  ·simp only [ARep] at hr ⊢
   obtain ⟨vs, h1, h2⟩ := hr
   exact ⟨vs, wkvs_rep ho cs' _ vs h h1, h2⟩
  ·exact h.elim
 | .tup cs', x, u, h, hr => by
  simp only [wkv] at h
  split at h
  ·simp only [ARep] at hr ⊢
   obtain ⟨vs, h1, h2⟩ := hr
   exact ⟨vs, wkvs_rep ho cs' _ vs h h1, h2⟩
  ·exact h.elim
 | .fn f cs', x, u, h, hr => by
  simp only [wkv] at h
  split at h
  ·obtain ⟨rfl, h⟩ := h
   simp only [ARep] at hr ⊢
   obtain ⟨vs, h1, h2⟩ := hr
   exact ⟨vs, wkvs_rep ho cs' _ vs h h1, h2⟩
  ·exact h.elim
 | .ifc t x', x, u, h, hr => by
  simp only [wkv] at h
  split at h
  ·obtain ⟨rfl, h⟩ := h
   simp only [ARep] at hr ⊢
   obtain ⟨y, h1, h2⟩ := hr
   exact ⟨y, wkv_rep ho x' _ y h h1, h2⟩
  ·exact h.elim
theorem wkvs_rep (ho : Own Z lb L w) : ∀ (xs' xs : List AV) (us : List Value), wkvs σ L xs' xs → AReps Z lb w xs us → AReps (frz σ L lb Z) (lbSel σ lb) w xs' us
 | [], xs, us, h, hr => by
  simp only [wkvs] at h
  subst h; exact hr
 | x' :: xs', xs, us, h, hr => by
  simp only [wkvs] at h
  split at h
  ·simp only [AReps] at hr ⊢
   obtain ⟨u, us', rfl, h1, h2⟩ := hr
   exact ⟨u, us', rfl, wkv_rep ho x' _ u h.1 h1, wkvs_rep ho xs' _ us' h.2 h2⟩
  ·exact h.elim
end
theorem wkL_get : ∀ {r : List (Option Nat)} {L' : List (Option Ob)}, wkL σ L r L' → r.length = L'.length ∧ ∀ (i : Nat) o, L'[i]? = some o → ∃ ob s, o = some ob ∧ r[i]? = some s ∧ wkOb σ L s ob
 | [], L', h => by
  simp only [wkL] at h
  subst h
  exact ⟨rfl, fun i o h => by simp at h⟩
 | s :: r, L', h => by
  simp only [wkL] at h
  split at h
  ·rename_i ob' L'
   obtain ⟨h1, h2⟩ := wkL_get h.2
   refine ⟨by simp [h1], fun i o hi => ?_⟩
   cases i with
   | zero =>
    simp only [List.getElem?_cons_zero, Option.some.injEq] at hi
    exact ⟨ob', s, hi.symm, rfl, h.1⟩
   | succ i => exact h2 i o (by simpa using hi)
  ·exact h.elim
theorem wkT_get {t : List (Nat × Option AV)} : ∀ {t' : List (Nat × Option AV)}, wkT σ L t t' → ∀ d x', tget t' d = some x' → ∃ x, tget t d = some x ∧ wkv σ L x' x
 | [], _, d, x', h => by simp [tget] at h
 | (d, none) :: r, hw, d', x', h => by
  simp only [tget] at h
  split at h
  ·simp at h
  ·exact wkT_get (t' := r) hw d' x' h
 | (d, some y) :: r, hw, d', x', h => by
  simp only [tget] at h
  split at h
  ·rename_i hb
   have hb := Nat.eq_of_beq_eq_true hb
   subst hb
   simp only [Option.some.injEq] at h
   subst h
   exact withV_some hw.1
  ·exact wkT_get hw.2 d' x' h
end wk
theorem wk_sel {nb : Nat} {s : ASt} {t' : List (Nat × Option AV)} {L' : List (Option Ob)} (σ : List (Option Nat)) (hk : keepN nb 0 σ) (hn : nodupO (liveS σ L') = true) (hL : wkL σ s.L σ L') (ht : wkT σ s.L s.t t') : Wk nb s ⟨s.n, t', L'⟩ := by
 intro Z lb a w hs
 obtain ⟨hlen, hget⟩ := wkL_get hL
 have ho := hs.own
 have hz : ∀ b, frz σ s.L lb Z b → Z b ∨ ∃ i : Nat, lb[i]? = some (some (some b)) := by
  intro b hb
  rcases hb with h | ⟨i, sz, es, h1, h2, h3⟩
  ·exact .inl h
  ·exact .inr ⟨i, h2⟩
 -- the kept objects' blocks are not let go
 have hout : ∀ (i j : Nat) ob b, σ[i]? = some (some j) → s.L[j]? = some (some ob) → ob.live → lb[j]? = some (some (some b)) → ¬ frz σ s.L lb Z b := by
  intro i j ob b hi hj hl hb hf
  obtain ⟨x, h1, h2⟩ := ho.obj j ob hj
  rw [hb] at h1
  simp only [Option.some.injEq] at h1
  subst h1
  rcases hf with h | ⟨i2, sz, es, g1, g2, g3⟩
  ·exact (h2.block hl).1 h
  ·have := ho.inj j i2 ob _ b hj g1 hl trivial hb g2
   subst this
   exact g3 (List.mem_of_getElem? hi)
 have hobj : ∀ (i : Nat) ob', L'[i]? = some (some ob') → ∃ x, (lbSel σ lb)[i]? = some (some x) ∧ ObAt (frz σ s.L lb Z) (lbSel σ lb) w ob' x ∧ ∀ b, x = some b → ob'.live → ∃ j ob, σ[i]? = some (some j) ∧ s.L[j]? = some (some ob) ∧ ob.live ∧ lb[j]? = some (some (some b)) := by
  intro i ob' hi
  obtain ⟨ob1, sg, h1, h2, h3⟩ := hget i _ hi
  simp only [Option.some.injEq] at h1
  subst h1
  cases sg with
  | none =>
   simp only [wkOb] at h3
   split at h3
   ·obtain ⟨h4, rfl⟩ := h3
    exact ⟨none, lbSel_none h2, ⟨rfl, h4⟩, fun b hb _ => by simp at hb⟩
   ·exact ⟨none, lbSel_none h2, h3, fun b hb _ => by simp at hb⟩
   ·exact ⟨none, lbSel_none h2, trivial, fun b hb _ => by simp at hb⟩
   ·exact h3.elim
  | some j =>
   simp only [wkOb] at h3
   obtain ⟨ob, hj, h3⟩ := withO_some h3
   rw [nth_eq] at hj
   obtain ⟨x, k1, k2⟩ := ho.obj j ob hj
   cases ob' with
   | dead => exact ⟨x, lbSel_some h2 k1, trivial, fun b hb hl => hl.elim⟩
   | bld T' q' =>
    cases ob with
    | bld T q =>
     obtain ⟨rfl, h4⟩ := h3
     cases x with
     | none => exact k2.elim
     | some b =>
      obtain ⟨q1, q2, p, v, q3, q4, q5, q6⟩ := k2
      exact ⟨some b, lbSel_some h2 k1, ⟨hout i j _ b h2 hj trivial k1, q2, p, v, q3, q4, wkv_rep ho _ _ _ h4 q5, q6⟩, fun b' hb _ => by cases hb; exact ⟨j, _, h2, hj, trivial, k1⟩⟩
    | _ => exact h3.elim
   | byt e' bs' =>
    cases ob with
    | byt e bs =>
     obtain ⟨rfl, rfl⟩ := h3
     cases x with
     | none => exact ⟨none, lbSel_some h2 k1, k2, fun b hb _ => by simp at hb⟩
     | some b =>
      obtain ⟨q1, q2, q3⟩ := k2
      exact ⟨some b, lbSel_some h2 k1, ⟨hout i j _ b h2 hj trivial k1, q2, q3⟩, fun b' hb _ => by cases hb; exact ⟨j, _, h2, hj, trivial, k1⟩⟩
    | _ => exact h3.elim
   | mp kk' ek' =>
    cases ob with
    | mp kk ek =>
     obtain ⟨rfl, rfl⟩ := h3
     cases x with
     | none => exact k2.elim
     | some b =>
      obtain ⟨q1, q2, q3⟩ := k2
      exact ⟨some b, lbSel_some h2 k1, ⟨hout i j _ b h2 hj trivial k1, q2, q3⟩, fun b' hb _ => by cases hb; exact ⟨j, _, h2, hj, trivial, k1⟩⟩
    | _ => exact h3.elim
   | mpx kk' es' cl' =>
    cases ob with
    | mpx kk es cl =>
     obtain ⟨rfl, rfl, rfl⟩ := h3
     cases x with
     | none => exact k2.elim
     | some b =>
      obtain ⟨q1, q2, q3⟩ := k2
      exact ⟨some b, lbSel_some h2 k1, ⟨hout i j _ b h2 hj trivial k1, q2, q3⟩, fun b' hb _ => by cases hb; exact ⟨j, _, h2, hj, trivial, k1⟩⟩
    | _ => exact h3.elim
   | it q' since' seen' last' =>
    cases ob with
    | it q since seen last =>
     obtain ⟨rfl, rfl, rfl, h4⟩ := h3
     cases x with
     | none => exact k2.elim
     | some b =>
      obtain ⟨q1, q2, mo, q3, q4⟩ := k2
      exact ⟨some b, lbSel_some h2 k1, ⟨hout i j _ b h2 hj trivial k1, q2, mo, wkv_rep ho _ _ _ h4 q3, q4⟩, fun b' hb _ => by cases hb; exact ⟨j, _, h2, hj, trivial, k1⟩⟩
    | _ => exact h3.elim
   | pvar m' cs' =>
    cases ob with
    | pvar m cs =>
     obtain ⟨rfl, h4⟩ := h3
     cases x with
     | none => exact k2.elim
     | some b =>
      obtain ⟨q1, q2, vs, arr, ty, fr, q3, q4, q5, q6⟩ := k2
      exact ⟨some b, lbSel_some h2 k1, ⟨hout i j _ b h2 hj trivial k1, q2, vs, arr, ty, fr, wkvs_rep ho _ _ _ h4 q3, q4, q5, q6⟩, fun b' hb _ => by cases hb; exact ⟨j, _, h2, hj, trivial, k1⟩⟩
    | _ => exact h3.elim
   | lp l' mk' n' ds' cs' =>
    cases ob with
    | lp l mk n ds cs =>
     obtain ⟨rfl, rfl, rfl, rfl, h4⟩ := h3
     cases x with
     | none => exact k2.elim
     | some b =>
      obtain ⟨q1, q2, q2', vs, tm, q3, q4⟩ := k2
      exact ⟨some b, lbSel_some h2 k1, ⟨hout i j _ b h2 hj trivial k1, q2, q2', vs, tm, wkvs_rep ho _ _ _ h4 q3, q4⟩, fun b' hb _ => by cases hb; exact ⟨j, _, h2, hj, trivial, k1⟩⟩
    | _ => exact h3.elim
   | var cs' =>
    cases ob with
    | dead => exact h3.elim
    | lp _ _ _ _ _ => exact h3.elim
    | pvar m cs => exact h3.elim
    | mpx _ _ _ => exact h3.elim
    | it _ _ _ _ => exact h3.elim
    | bld T q => exact h3.elim
    | byt e bs => exact h3.elim
    | mp kk ek => exact h3.elim
    | arr sz es => exact h3.elim
    | var cs =>
     cases x with
     | none => exact k2.elim
     | some b =>
      obtain ⟨q1, q2, vs, ty, fr, q3, q4, q5, q6⟩ := k2
      exact ⟨some b, lbSel_some h2 k1, ⟨hout i j _ b h2 hj trivial k1, q2, vs, ty, fr, wkvs_rep ho _ _ _ h3 q3, q4, q5, q6⟩, fun b' hb _ => by cases hb; exact ⟨j, _, h2, hj, trivial, k1⟩⟩
   | arr sz' es' =>
    cases ob with
    | dead => exact h3.elim
    | lp _ _ _ _ _ => exact h3.elim
    | pvar m cs => exact h3.elim
    | mpx _ _ _ => exact h3.elim
    | it _ _ _ _ => exact h3.elim
    | bld T q => exact h3.elim
    | byt e bs => exact h3.elim
    | mp kk ek => exact h3.elim
    | var cs => exact h3.elim
    | arr sz es =>
     obtain ⟨rfl, h4⟩ := h3
     rcases h4 with rfl | rfl
     rotate_left
     ·cases x with
      | none => exact ⟨none, lbSel_some h2 k1, ⟨rfl, k2.2⟩, fun b hb _ => by simp at hb⟩
      | some b =>
       obtain ⟨q1, q2, vs, arr, ty, fr, q3, q4, q5, q6, q7, q8, q9, q10⟩ := k2
       exact ⟨some b, lbSel_some h2 k1, ⟨hout i j _ b h2 hj trivial k1, q2, [], arr, ty, fr, rfl, q4, by simp, q6, q7, by simp, by simp, by simp⟩, fun b' hb _ => by cases hb; exact ⟨j, _, h2, hj, trivial, k1⟩⟩
     cases x with
     | none => exact ⟨none, lbSel_some h2 k1, k2, fun b hb _ => by simp at hb⟩
     | some b =>
      obtain ⟨q1, q2, vs, arr, ty, fr, q3, q4⟩ := k2
      exact ⟨some b, lbSel_some h2 k1, ⟨hout i j _ b h2 hj trivial k1, q2, vs, arr, ty, fr, Reps.mono (fun _ h => .inl h) (fun _ _ => rfl) _ _ q3, q4⟩, fun b' hb _ => by cases hb; exact ⟨j, _, h2, hj, trivial, k1⟩⟩
 refine ⟨frz σ s.L lb Z, lbSel σ lb, ⟨rfl, rfl, OutD.refl _, Nat.le_refl _, fun _ _ => rfl, fun _ h => .inl h, fun b hb _ => hz b hb, fun _ _ => rfl, fun _ _ _ => rfl, fun i b hb => ?_, fun i x hi hx => ?_⟩, ⟨⟨by simp [lbSel, hlen], fun i ob' hi => ?_, fun i hi => ?_, ?_, ⟨fun b hb => ?_, Glob.mono (fun _ h => .inl h) (fun _ _ => rfl) ho.zlt.gl⟩⟩, fun d x' hx' => ?_, hs.df.core (Nat.le_refl _) (fun b hb _ => hz b hb) (fun _ _ _ => rfl) (fun i b hb => by obtain ⟨j, _, h2⟩ := lbSel_back hb; exact .inl ⟨j, h2⟩), hs.sz⟩⟩
 ·obtain ⟨j, _, h2⟩ := lbSel_back hb
  exact .inl ⟨j, h2⟩
 ·have := keepN_get hk i hi
  rw [Nat.zero_add] at this
  exact lbSel_some this hx
 ·obtain ⟨x, h1, h2, _⟩ := hobj i ob' hi
  exact ⟨x, h1, h2⟩
 ·obtain ⟨ob, _, h1, _⟩ := hget i _ hi
  simp at h1
 ·intro i i' o o' b hi hi' hl hl' hb hb'
  obtain ⟨x, h1, _, h2⟩ := hobj i o hi
  obtain ⟨x', h1', _, h2'⟩ := hobj i' o' hi'
  rw [hb] at h1; rw [hb'] at h1'
  simp only [Option.some.injEq] at h1 h1'
  obtain ⟨j, ob, g1, g2, g3, g4⟩ := h2 b h1.symm hl
  obtain ⟨j', ob', g1', g2', g3', g4'⟩ := h2' b h1'.symm hl'
  have := ho.inj j j' ob ob' b g2 g2' g3 g3' g4 g4'
  subst this
  exact nodupO_idx hn (liveS_get g1 hi hl) (liveS_get g1' hi' hl')
 ·rcases hb with h | ⟨i, sz, es, h1, h2, _⟩
  ·exact ho.zlt.lt b h
  ·obtain ⟨x, k1, k2⟩ := ho.obj i _ h1
   rw [h2] at k1
   simp only [Option.some.injEq] at k1
   subst k1
   exact k2.2.1
 ·obtain ⟨x, h1, h2⟩ := wkT_get ht d x' hx'
  obtain ⟨u, h3, h4⟩ := hs.tm d x h1
  exact ⟨u, h3, wkv_rep ho _ _ _ h2 h4⟩
end Go.Ab
namespace Go.Ab
variable [Glob]
@[congr] theorem awp_congr {P : Program} {nb : Nat} {c : Code} {Q : Exit → ASt → Prop} {s s' : ASt} (h : s = s') : awp P nb c Q s = awp P nb c Q s' := by rw [h]
@[congr] theorem VX_congr {E : Env} {ops l : List Oper} {r r' : Nat} {s s' : ASt} {f : List FP} {K : ASt → List FP → Prop} (h1 : r = r') (h2 : s = s') : VX E ops l r s f K = VX E ops l r' s' f K := by rw [h1, h2]
@[go_sem] theorem VX_nil {E : Env} {ops : List Oper} {r : Nat} {s : ASt} {f : List FP} {K : ASt → List FP → Prop} : VX E ops [] r s f K = K s f := by rw [VX_eq]; rfl
@[go_sem] theorem VX_one {E : Env} {ops rest : List Oper} {r : Nat} {s : ASt} {f : List FP} {K : ASt → List FP → Prop} {dst : Option Tmp} {op : Op} {ty : TypeId} {pos : String} {af : Array Edge} : VX E ops (⟨dst, op, ty, pos, af, none⟩ :: rest) r s f K =
  vstep E ⟨dst, op, ty, pos, af, none⟩ r s fun e => VX E ops rest (r + slotsOf ⟨dst, op, ty, pos, af, none⟩) (s.app dst e) (fpOf ⟨dst, op, ty, pos, af, none⟩ none (some e) :: f) K := by rw [VX_eq]; rfl
@[go_sem] theorem VX_gt {E : Env} {ops rest : List Oper} {r : Nat} {s : ASt} {f : List FP} {K : ASt → List FP → Prop} {dst : Option Tmp} {op : Op} {ty : TypeId} {pos : String} {af : Array Edge} {j : Nat} : VX E ops (⟨dst, op, ty, pos, af, some (j, true)⟩ :: rest) r s f K =
  match nth ops j with
   | some oj => (match oj.dst with
    | some d => (match tget s.t d with
     | some (.p (.v (.bool b))) => fork b (vstep E ⟨dst, op, ty, pos, af, some (j, true)⟩ r (litT s d true) fun e => VX E ops rest (r + slotsOf ⟨dst, op, ty, pos, af, some (j, true)⟩) ((litT s d true).app dst e) (fpOf ⟨dst, op, ty, pos, af, some (j, true)⟩ (some (d, true)) (some e) :: f) K) (vskip ⟨dst, op, ty, pos, af, some (j, true)⟩ s (VX E ops rest (r + slotsOf ⟨dst, op, ty, pos, af, some (j, true)⟩) ((litT s d false).eff ⟨dst, op, ty, pos, af, some (j, true)⟩ none) (fpOf ⟨dst, op, ty, pos, af, some (j, true)⟩ (some (d, true)) none :: f) K))
     | some (.tup []) => vskip ⟨dst, op, ty, pos, af, some (j, true)⟩ s (VX E ops rest (r + slotsOf ⟨dst, op, ty, pos, af, some (j, true)⟩) (s.eff ⟨dst, op, ty, pos, af, some (j, true)⟩ none) (fpOf ⟨dst, op, ty, pos, af, some (j, true)⟩ (some (d, true)) none :: f) K)
     | _ => False)
    | none => False)
   | none => False := by
 rw [VX_eq]
 simp only [vexec, gdst]
 cases nth ops j with
 | none => rfl
 | some oj =>
  obtain ⟨dst', o1, o2, o3, o4, o5⟩ := oj
  cases dst' with
  | none => rfl
  | some d =>
   simp only
   cases tget s.t d with
   | none => rfl
   | some x => cases x with
    | p y => cases y with
     | v z => cases z <;> rfl
     | _ => rfl
    | tup l => cases l <;> rfl
    | _ => rfl
@[go_sem] theorem VX_gf {E : Env} {ops rest : List Oper} {r : Nat} {s : ASt} {f : List FP} {K : ASt → List FP → Prop} {dst : Option Tmp} {op : Op} {ty : TypeId} {pos : String} {af : Array Edge} {j : Nat} : VX E ops (⟨dst, op, ty, pos, af, some (j, false)⟩ :: rest) r s f K =
  match nth ops j with
   | some oj => (match oj.dst with
    | some d => (match tget s.t d with
     | some (.p (.v (.bool b))) => fork b (vskip ⟨dst, op, ty, pos, af, some (j, false)⟩ s (VX E ops rest (r + slotsOf ⟨dst, op, ty, pos, af, some (j, false)⟩) ((litT s d true).eff ⟨dst, op, ty, pos, af, some (j, false)⟩ none) (fpOf ⟨dst, op, ty, pos, af, some (j, false)⟩ (some (d, false)) none :: f) K)) (vstep E ⟨dst, op, ty, pos, af, some (j, false)⟩ r (litT s d false) fun e => VX E ops rest (r + slotsOf ⟨dst, op, ty, pos, af, some (j, false)⟩) ((litT s d false).app dst e) (fpOf ⟨dst, op, ty, pos, af, some (j, false)⟩ (some (d, false)) (some e) :: f) K)
     | some (.tup []) => vskip ⟨dst, op, ty, pos, af, some (j, false)⟩ s (VX E ops rest (r + slotsOf ⟨dst, op, ty, pos, af, some (j, false)⟩) (s.eff ⟨dst, op, ty, pos, af, some (j, false)⟩ none) (fpOf ⟨dst, op, ty, pos, af, some (j, false)⟩ (some (d, false)) none :: f) K)
     | _ => False)
    | none => False)
   | none => False := by
 rw [VX_eq]
 simp only [vexec, gdst]
 cases nth ops j with
 | none => rfl
 | some oj =>
  obtain ⟨dst', o1, o2, o3, o4, o5⟩ := oj
  cases dst' with
  | none => rfl
  | some d =>
   simp only
   cases tget s.t d with
   | none => rfl
   | some x => cases x with
    | p y => cases y with
     | v z => cases z <;> rfl
     | _ => rfl
    | tup l => cases l <;> rfl
    | _ => rfl
@[congr] theorem vstep_congr {E : Env} {o : Oper} {r r' : Nat} {s s' : ASt} {K : Eff → Prop} (h1 : r = r') (h2 : s = s') : vstep E o r s K = vstep E o r' s' K := by rw [h1, h2]
@[congr] theorem vskip_congr {o : Oper} {s s' : ASt} {K : Prop} (h2 : s = s') : vskip o s K = vskip o s' K := by rw [h2]
@[congr] theorem withTy_congr {E : Env} {T T' : TypeId} {k : TyI → Prop} (h : T = T') : withTy E T k = withTy E T' k := by rw [h]
@[congr] theorem withV_congr {x x' : Option AV} {k : AV → Prop} (h : x = x') : withV x k = withV x' k := by rw [h]
@[congr] theorem withC_congr {x x' : Option (List AV)} {k : List AV → Prop} (h : x = x') : withC x k = withC x' k := by rw [h]
@[congr] theorem withO_congr {x x' : Option (Option Ob)} {k : Ob → Prop} (h : x = x') : withO x k = withO x' k := by rw [h]
@[congr] theorem onB_congr {b b' : Bool} {A : Prop} (h : b = b') : onB b A = onB b' A := by rw [h]
@[congr] theorem fork_congr {b b' : Bool} {A B : Prop} (h : b = b') : fork b A B = fork b' A B := by rw [h]
@[congr] theorem forceA_congr {l l' : List AV} {k : List AV → Prop} (h : l = l') : forceA l k = forceA l' k := by rw [h]
@[congr] theorem forceP_congr {l l' : List PV} {k : List PV → Prop} (h : l = l') : forceP l k = forceP l' k := by rw [h]
@[congr] theorem frA_congr {ℓ : Nat → Option (Option Ob)} {x x' : AV} {ks ks' : List Nat} {k : PV → List Nat → Prop} (h : x = x') (h2 : ks = ks') : frA ℓ x ks k = frA ℓ x' ks' k := by rw [h, h2]
@[congr] theorem frA1_congr {ℓ : Nat → Option (Option Ob)} {x x' : AV} {ks ks' : List Nat} {k : PV → List Nat → Prop} (h : x = x') (h2 : ks = ks') : frA1 ℓ x ks k = frA1 ℓ x' ks' k := by rw [h, h2]
@[congr] theorem frA1s_congr {ℓ : Nat → Option (Option Ob)} {x x' : List AV} {ks ks' : List Nat} {k : List PV → List Nat → Prop} (h : x = x') (h2 : ks = ks') : frA1s ℓ x ks k = frA1s ℓ x' ks' k := by rw [h, h2]
@[congr] theorem frAs_congr {ℓ : Nat → Option (Option Ob)} {x x' : List AV} {ks ks' : List Nat} {k : List PV → List Nat → Prop} (h : x = x') (h2 : ks = ks') : frAs ℓ x ks k = frAs ℓ x' ks' k := by rw [h, h2]
@[congr] theorem toPV_congr {σ : List (Option Nat)} {L L' : List (Option Ob)} {x x' : AV} {k : PV → Prop} (h : L = L') (h2 : x = x') : toPV σ L x k = toPV σ L' x' k := by rw [h, h2]
@[congr] theorem toPVs_congr {σ : List (Option Nat)} {L L' : List (Option Ob)} {x x' : List AV} {k : List PV → Prop} (h : L = L') (h2 : x = x') : toPVs σ L x k = toPVs σ L' x' k := by rw [h, h2]
@[congr] theorem regK_congr {d d' : Bool} {ops : List Oper} {K : ASt → Prop} {s s' : ASt} {f f' : List FP} (h : d = d') (h2 : s = s') (h3 : f = f') : regK d ops K s f = regK d' ops K s' f' := by rw [h, h2, h3]
@[congr] theorem thenQ_congr {P : Program} {nb : Nat} {y : Code} {Q : Exit → ASt → Prop} {e : Exit} {s s' : ASt} (h : s = s') : thenQ P nb y Q e s = thenQ P nb y Q e s' := by rw [h]
@[congr] theorem blockQ_congr {id : Nat} {Q : Exit → ASt → Prop} {e : Exit} {s s' : ASt} (h : s = s') : blockQ id Q e s = blockQ id Q e s' := by rw [h]
@[congr] theorem endQ_congr {E : Env} {rs : List ResultVar} {r : PV} {e : Exit} {s s' : ASt} (h : s = s') : endQ E rs r e s = endQ E rs r e s' := by rw [h]
@[congr] theorem pcalls_congr {P : Program} {f : FuncId} {args args' : List PV} {r : PV} (h : args = args') : PCalls P f args r = PCalls P f args' r := by rw [h]
@[congr] theorem callK_congr {E : Env} {g : FuncId} {ps ps' : List PV} {A : Prop} {K : PV → Prop} {t : Tag A} {u : Tag K} (h : ps = ps') : callK E g ps A K t u = callK E g ps' A K t u := by rw [h]
@[congr] theorem callF_congr {E : Env} {g : FuncId} {ps ps' : List PV} {A : Prop} {K1 K2 : PV → Prop} {t : Tag A} {u : Tag K1} {v : Tag K2} (h : ps = ps') : callF E g ps A K1 K2 t u v = callF E g ps' A K1 K2 t u v := by rw [h]
@[congr] theorem wkL_congr {σ : List (Option Nat)} {L M : List (Option Ob)} {r : List (Option Nat)} {L' M' : List (Option Ob)} (h : L = M) (h' : L' = M') : wkL σ L r L' = wkL σ M r M' := by rw [h, h']
@[congr] theorem onO_congr {α : Type} {x x' : Option α} {A : Prop} {k : α → Prop} (h : x = x') : onO x A k = onO x' A k := by rw [h]
@[congr] theorem pickE_congr {α : Type} {A A' : α → Prop} {k : α → Prop} {t : Tag k} (h : A = A') : pickE A k t = pickE A' k t := by rw [h]
theorem zP {p : Prop} [Decidable p] {A B : Prop} (h1 : p → A) (h2 : ¬ p → B) : fork (decide p) A B := zL (fun h => h1 (of_decide_eq_true h)) (fun h => h2 (of_decide_eq_false h))
theorem zQ {α : Type} [BEq α] [LawfulBEq α] {x y : α} {A B : Prop} (h1 : x = y → A) (h2 : ¬ x = y → B) : fork (x == y) A B := zL (fun h => h1 (eq_of_beq h)) (fun h => h2 (ne_of_beq_false h))
theorem zR {α : Type} [BEq α] [LawfulBEq α] {x y : α} {A B : Prop} (h1 : ¬ x = y → A) (h2 : x = y → B) : fork (x != y) A B := zL (fun h => h1 (by simpa using h)) (fun h => h2 (by simpa using h))
theorem zM {b : Bool} {A B : Prop} (h : fork b B A) : fork (!b) A B := by cases b <;> exact ⟨h.run⟩
theorem zN {a b : Bool} {A B : Prop} (h : fork a (fork b A B) B) : fork (a && b) A B := by cases a; exact ⟨h.run⟩; exact h.run
theorem zO {a b : Bool} {A B : Prop} (h : fork a A (fork b A B)) : fork (a || b) A B := by cases a; exact h.run; exact ⟨h.run⟩
theorem fork_t (A B : Prop) : fork true A B = A := propext ⟨fun h => h.run, fun h => ⟨h⟩⟩
theorem fork_f (A B : Prop) : fork false A B = B := propext ⟨fun h => h.run, fun h => ⟨h⟩⟩
theorem beqE (a b : Nat) : Nat.beq a b = decide (a = b) := by
 cases h : Nat.beq a b with
 | true => simp [Nat.eq_of_beq_eq_true h]
 | false =>
  have : ¬ a = b := fun hh => by subst hh; simp at h
  simp [this]
theorem bleE (a b : Nat) : Nat.ble a b = decide (a ≤ b) := by
 cases h : Nat.ble a b with
 | true => simp [Nat.le_of_ble_eq_true h]
 | false =>
  have : ¬ a ≤ b := fun hh => by rw [Nat.ble_eq_true_of_le hh] at h; simp at h
  simp [this]
theorem bltE (a b : Nat) : Nat.blt a b = decide (a < b) := bleE (a + 1) b
theorem chk_ok {ops : List Oper} {fps : List FP} {A : Prop} (h : chkB ops fps = true) (hA : A) : chkB ops fps = true ∧ A := ⟨h, hA⟩
attribute [go_sem] EK.get EK.zero kkOf kkEq ekOf ezOk keyOk mapPut isCst slotOf nwW holesOk vskip onB okDst slotsOf holesOf addL lenL isHole nth withV withC withO forceA forceP mapV mapP allOneB oneB ASt.eff ASt.app litT tput tget setAll setL regK thenQ blockQ initT gdst ev bFill plOf plStruct plArr acells pcells aggCells unp mkAgg lsp loadFrom takeN TK.isAgg wholeElem partA optI isShift kbeq gather fitB pzero elemsOf gatherP appP vOk eqT eqFs eqIs idxs eqScalar takeAt unV isNilPtr endQ resVals resVal resAll toPV toPVs subE memO beqE bltE bleE intTy mapTy EK.zeroed isNilSl renA renAs renO zipW gatherA appA inBs inB inBO lentOk freshN freshN.elemB PLe PLes PLe_self PLes_self pvF pvFs wkv wkvs wkOb wkL wkT nodupO liveS keepN fork_t fork_f onO List.length_map Int.toNat_natCast exists_eq_left' true_and and_true
attribute [go_sem] u8Ty strTy allB toBs isB toB eB allB_map toBs_map allB_app toBs_app allB_rep toBs_rep
attribute [go_sem] gatherQ snds canF canFs canF1 canF1s deads scal scals
attribute [go_sem ↓] vConvX vMakeMap vLookup vMapUpdate vNil vClear vClearM vClearX vRange vEntry vCopy vAppendS appBody withV withC withO onB forceA forceP onO toPV toPVs frA frAs frA1 frA1s vstep vop vMove vPick vAlloc vBox vBuild vLoad vStore vStoreF vBinP vEqP rho2 deadO inN vFieldAddr vField vExtract vIndexAddr vIndex vSlice vSliceA vBin vNilI vbinInt vshift vbinStr vEq vUn vConv vMakeFunc vBuildSliceF vMake vLen vMinMax vBuiltin vAppend isSliceTy vCall vAppendZ vCap
attribute [go_sem] List.drop_succ_cons List.drop_zero List.drop_nil List.set_cons_zero List.set_cons_succ List.length_cons List.length_nil List.map_cons List.map_nil List.foldr_cons List.foldr_nil List.append_nil List.nil_append List.cons_append List.singleton_append Nat.zero_add decide_true decide_false Option.map_none Option.map_some
end Go.Ab
set_option linter.unusedVariables false
set_option linter.unusedSimpArgs false
namespace Go.Ab
variable [Glob]
def keepT (t : List (Nat × Option AV)) : List Nat → List (Nat × Option AV)
 | [] => []
 | d :: r => match tget t d with
  | some x => (d, some x) :: keepT t r
  | none => keepT t r
def lookO : List (Nat × Option Nat) → Nat → Option Nat
 | [], _ => none
 | (i, x) :: r, k => match Nat.beq i k with
  | true => x
  | false => lookO r k
mutual
def mtA : AV → AV → List (Nat × Option Nat) → List (Nat × Option Nat)
 | .p _, _, acc => acc
 | .loc i _, x, acc => match x with
  | .loc j _ => (i, some j) :: acc
  | _ => acc
 | .eloc i _ _ _, x, acc => match x with
  | .eloc j _ _ _ => (i, some j) :: acc
  | _ => acc
 | .sl i _ _ _, x, acc => match x with
  | .sl j _ _ _ => (i, some j) :: acc
  | _ => acc
 | .mref i, x, acc => match x with
  | .mref j => (i, some j) :: acc
  | _ => acc
 | .agg cs', x, acc => match x with
  | .agg cs => mtAs cs' cs acc
  | _ => acc
 | .tup cs', x, acc => match x with
  | .tup cs => mtAs cs' cs acc
  | _ => acc
 | .fn _ cs', x, acc => match x with
  | .fn _ cs => mtAs cs' cs acc
  | _ => acc
 | .ifc _ x', x, acc => match x with
  | .ifc _ y => mtA x' y acc
  | _ => acc
def mtAs : List AV → List AV → List (Nat × Option Nat) → List (Nat × Option Nat)
 | [], _, acc => acc
 | y :: ys, xs, acc => match xs with
  | x :: xs => mtAs ys xs (mtA y x acc)
  | [] => acc
end
def mtT (t : List (Nat × Option AV)) : List (Nat × Option AV) → List (Nat × Option Nat) → List (Nat × Option Nat)
 | [], acc => acc
 | (d, some x') :: r, acc => match tget t d with
  | some x => mtT t r (mtA x' x acc)
  | none => mtT t r acc
 | (_, none) :: r, acc => mtT t r acc
def mtL (L : List (Option Ob)) : Nat → List (Option Ob) → List (Nat × Option Nat) → List (Nat × Option Nat)
 | _, [], acc => acc
 | i, some (.var cs') :: r, acc => match lookO acc i with
  | some j => match nth L j with
   | some (some (.var cs)) => mtL L (i + 1) r (mtAs cs' cs acc)
   | _ => mtL L (i + 1) r acc
  | none => mtL L (i + 1) r acc
 | i, some (.it q' _ _ _) :: r, acc => match lookO acc i with
  | some j => match nth L j with
   | some (some (.it q _ _ _)) => mtL L (i + 1) r (mtA q' q acc)
   | _ => mtL L (i + 1) r acc
  | none => mtL L (i + 1) r acc
 | i, some (.pvar _ cs') :: r, acc => match lookO acc i with
  | some j => match nth L j with
   | some (some (.pvar _ cs)) => mtL L (i + 1) r (mtAs cs' cs acc)
   | _ => mtL L (i + 1) r acc
  | none => mtL L (i + 1) r acc
 | i, some (.bld _ q') :: r, acc => match lookO acc i with
  | some j => match nth L j with
   | some (some (.bld _ q)) => mtL L (i + 1) r (mtA q' q acc)
   | _ => mtL L (i + 1) r acc
  | none => mtL L (i + 1) r acc
 | i, some (.lp _ _ _ _ cs') :: r, acc => match lookO acc i with
  | some j => match nth L j with
   | some (some (.lp _ _ _ _ cs)) => mtL L (i + 1) r (mtAs cs' cs acc)
   | _ => mtL L (i + 1) r acc
  | none => mtL L (i + 1) r acc
 | i, _ :: r, acc => mtL L (i + 1) r acc
def idN : Nat → Nat → List (Nat × Option Nat)
 | 0, _ => []
 | n + 1, i => (i, some i) :: idN n (i + 1)
def sgL (acc : List (Nat × Option Nat)) : Nat → List (Option Ob) → List (Option Nat)
 | _, [] => []
 | i, _ :: r => lookO acc i :: sgL acc (i + 1) r
def sgOf (nb : Nat) (s : ASt) (t' : List (Nat × Option AV)) (L' : List (Option Ob)) : List (Option Nat) :=
 sgL (mtL s.L 0 L' (mtL s.L 0 L' (mtT s.t t' (idN nb 0)))) 0 L'
def wkAll (nb : Nat) (s s' : ASt) (σ : List (Option Nat)) : Prop := s'.n = s.n ∧ keepN nb 0 σ ∧ nodupO (liveS σ s'.L) = true ∧ wkL σ s.L σ s'.L ∧ wkT σ s.L s.t s'.t
theorem wk_auto {nb : Nat} {s s' : ASt} (h : wkAll nb s s' (sgOf nb s s'.t s'.L)) : Wk nb s s' := by
 obtain ⟨n', t', L'⟩ := s'
 obtain ⟨h0, h1, h2, h3, h4⟩ := h
 simp only at h0
 subst h0
 exact wk_sel _ h1 h2 h3 h4
mutual
def refA : AV → List Nat
 | .p _ => []
 | .loc i _ => [i]
 | .eloc i _ _ _ => [i]
 | .sl i _ _ _ => [i]
 | .mref i => [i]
 | .agg cs => refAs cs
 | .tup cs => refAs cs
 | .fn _ cs => refAs cs
 | .ifc _ x => refA x
def refAs : List AV → List Nat
 | [] => []
 | x :: xs => appN (refA x) (refAs xs)
def appN : List Nat → List Nat → List Nat
 | [], ys => ys
 | x :: xs, ys => x :: appN xs ys
end
def refT : List (Nat × Option AV) → List Nat
 | [] => []
 | (_, some x) :: r => appN (refA x) (refT r)
 | (_, none) :: r => refT r
def elN : Nat → List Nat → Bool
 | _, [] => false
 | x, y :: l => match Nat.beq x y with
  | true => true
  | false => elN x l
def grow : Nat → List (Option Ob) → List Nat → List Nat
 | _, [], l => l
 | i, some (.var cs) :: r, l => match elN i l with
  | true => grow (i + 1) r (appN (refAs cs) l)
  | false => grow (i + 1) r l
 | i, some (.it q _ _ _) :: r, l => match elN i l with
  | true => grow (i + 1) r (appN (refA q) l)
  | false => grow (i + 1) r l
 | i, some (.pvar _ cs) :: r, l => match elN i l with
  | true => grow (i + 1) r (appN (refAs cs) l)
  | false => grow (i + 1) r l
 | i, some (.bld _ q) :: r, l => match elN i l with
  | true => grow (i + 1) r (appN (refA q) l)
  | false => grow (i + 1) r l
 | i, some (.lp _ _ _ _ cs) :: r, l => match elN i l with
  | true => grow (i + 1) r (appN (refAs cs) l)
  | false => grow (i + 1) r l
 | i, _ :: r, l => grow (i + 1) r l
def growN : Nat → List (Option Ob) → List Nat → List Nat
 | 0, _, l => l
 | n + 1, L, l => growN n L (grow 0 L l)
def prune (nb : Nat) (l : List Nat) : Nat → List (Option Ob) → List (Option Ob)
 | _, [] => []
 | i, o :: r => (match Nat.blt i nb with
  | true => o
  | false => match elN i l with
   | true => o
   | false => some .dead) :: prune nb l (i + 1) r
def setVia (t : List (Nat × Option AV)) : List (Nat × Ob) → List (Option Ob) → List (Option Ob)
 | [], L => L
 | (d, o) :: r, L => match tget t d with
  | some (.loc i _) => setVia t r (setL L i (some o))
  | some (.sl i _ _ _) => setVia t r (setL L i (some o))
  | some (.mref i) => setVia t r (setL L i (some o))
  | _ => setVia t r L
def someL : List Ob → List (Option Ob)
 | [] => []
 | o :: r => some o :: someL r
def slotV : List (Nat × AV) → List (Nat × Option AV)
 | [] => []
 | (d, x) :: r => (d, some x) :: slotV r
def appT : List (Nat × Option AV) → List (Nat × Option AV) → List (Nat × Option AV)
 | [], ys => ys
 | x :: xs, ys => x :: appT xs ys
def appO : List (Option Ob) → List (Option Ob) → List (Option Ob)
 | [], ys => ys
 | x :: xs, ys => x :: appO xs ys
def headOf (nb n : Nat) (t : List (Nat × Option AV)) (L : List (Option Ob)) : ASt := ⟨n, t, prune nb (growN 3 L (refT t)) 0 L⟩
def hdS (nb : Nat) (s : ASt) (keep : List Nat) (vs : Nat → List (Nat × AV)) (obs : Nat → List (Nat × Ob)) (new : List Ob) : ASt :=
 headOf nb s.n (appT (slotV (vs (lenL s.L))) (keepT s.t keep)) (appO (setVia s.t (obs (lenL s.L)) s.L) (someL new))
theorem r_loopA {P : Program} {nb : Nat} {Q : Exit → ASt → Prop} {n : Nat} {t : List (Nat × Option AV)} {L : List (Option Ob)} {c : Code} {α : Type} (keep : List Nat) (vs : α → Nat → List (Nat × AV)) (obs : α → Nat → List (Nat × Ob)) (new : α → List Ob) (p : α → Prop) (m : α → Nat) (x₀ : α)
  (h0 : p x₀) (hs0 : Wk nb ⟨n, t, L⟩ (hdS nb ⟨n, t, L⟩ keep (vs x₀) (obs x₀) (new x₀))) (I : α → ASt) (hI : ∀ x, hdS nb ⟨n, t, L⟩ keep (vs x) (obs x) (new x) = I x)
  (round : ∀ x, p x → awp P nb c (loopQ nb I p m x Q) (I x)) : awp P nb (.loop c) Q ⟨n, t, L⟩ :=
 r_loop I p m x₀ h0 (by rw [← hI]; exact hs0) round
theorem r_cut {P : Program} {nb : Nat} {Q : Exit → ASt → Prop} {n : Nat} {t : List (Nat × Option AV)} {L : List (Option Ob)} {c d : Code} {α : Type} (keep : List Nat) (vs : α → Nat → List (Nat × AV)) (obs : α → Nat → List (Nat × Ob)) (new : α → List Ob) (p : α → Prop)
  (I : α → ASt) (hI : ∀ x, hdS nb ⟨n, t, L⟩ keep (vs x) (obs x) (new x) = I x)
  (h1 : awp P nb c (fun e s => match e with | .normal => ∃ y, p y ∧ Wk nb s (I y) | e => Q e s) ⟨n, t, L⟩)
  (h2 : ∀ x, p x → awp P nb d Q (I x)) : awp P nb (.seq c d) Q ⟨n, t, L⟩ := by
 refine zY (awp_mono (fun e s h => ?_) h1)
 cases e with
 | normal =>
  obtain ⟨y, hp, hw⟩ := h
  exact r_weak hw (h2 y hp)
 | _ => exact h
theorem cut_next {α : Type} {nb : Nat} {I : α → ASt} {p : α → Prop} {s : ASt} (y : α) (hp : p y) (hw : wkAll nb s (I y) (sgOf nb s (I y).t (I y).L)) : ∃ y, p y ∧ Wk nb s (I y) :=
 ⟨y, hp, wk_auto hw⟩
theorem wrap_i64 {n : Int} (h1 : -9223372036854775808 ≤ n) (h2 : n ≤ 9223372036854775807) : IntKind.i64.wrap n = n := by
 simp only [IntKind.wrap, IntKind.min, IntKind.max, IntKind.bits, IntKind.signed] at *
 simp; omega
theorem wrap_u64 {n : Int} (h1 : 0 ≤ n) (h2 : n ≤ 18446744073709551615) : IntKind.u64.wrap n = n := by
 simp only [IntKind.wrap, IntKind.min, IntKind.max, IntKind.bits, IntKind.signed] at *
 simp; omega
theorem wrap_u8 {n : Int} (h1 : 0 ≤ n) (h2 : n ≤ 255) : IntKind.u8.wrap n = n := by
 simp only [IntKind.wrap, IntKind.min, IntKind.max, IntKind.bits, IntKind.signed] at *
 simp; omega
theorem zZ {α : Type} {nb : Nat} {I : α → ASt} {p : α → Prop} {m : α → Nat} {x : α} {Q : Exit → ASt → Prop} {s : ASt} (y : α) (hp : p y) (hm : m y < m x) (hw : wkAll nb s (I y) (sgOf nb s (I y).t (I y).L)) : loopQ nb I p m x Q .normal s :=
 ⟨y, hp, hm, wk_auto hw⟩
@[go_sem] theorem loopQ_exit {α : Type} {nb : Nat} {I : α → ASt} {p : α → Prop} {m : α → Nat} {x : α} {Q : Exit → ASt → Prop} {s : ASt} {i : Nat} : loopQ nb I p m x Q (.exit i) s = Q (.exit i) s := rfl
@[go_sem] theorem loopQ_ret {α : Type} {nb : Nat} {I : α → ASt} {p : α → Prop} {m : α → Nat} {x : α} {Q : Exit → ASt → Prop} {s : ASt} : loopQ nb I p m x Q .ret s = Q .ret s := rfl
@[congr] theorem loopQ_congr {α : Type} {nb : Nat} {I : α → ASt} {p : α → Prop} {m : α → Nat} {x : α} {Q : Exit → ASt → Prop} {e : Exit} {s s' : ASt} (h : s = s') : loopQ nb I p m x Q e s = loopQ nb I p m x Q e s' := by rw [h]
@[go_sem] def aI (n : Int) : AV := .p (.v (.int .i64 n))
@[go_sem] def aU (n : Int) : AV := .p (.v (.int .u64 n))
@[go_sem] def aB (b : Bool) : AV := .p (.v (.bool b))
theorem tn_succ (i : Nat) : ((i : Int) + 1).toNat = i + 1 := by omega
theorem tn_add (i j : Nat) : ((i : Int) + j).toNat = i + j := by omega
theorem tn_sub (i j : Nat) : ((i : Int) - j).toNat = i - j := by omega
theorem tn_pred (i : Nat) : ((i : Int) - 1).toNat = i - 1 := by omega
theorem yE {α : Type} {l : List α} {i : Nat} (d : α) (h : i < l.length) : l.take (i + 1) = l.take i ++ [l.getD i d] := by
 rw [List.take_add_one]; simp [List.getD_eq_getElem?_getD, h]
attribute [go_sem] keepT lookO mtA mtAs mtT mtL idN sgL sgOf wkAll refA refAs appN refT elN grow growN prune setVia someL slotV appT appO headOf hdS tn_succ tn_pred tn_add tn_sub
@[go_sem] theorem vcells_agg (l : List Value) : vcells (.agg ⟨l⟩) = l := rfl
@[go_sem] theorem vcells_int (k : IntKind) (n : Int) : vcells (.int k n) = [.int k n] := rfl
@[go_sem] theorem vcells_bool (b : Bool) : vcells (.bool b) = [.bool b] := rfl
@[go_sem] theorem vcells_str (s : ByteArray) : vcells (.string s) = [.string s] := rfl
@[go_sem] theorem vcells_ptr (a : Option Addr) : vcells (.pointer a) = [.pointer a] := rfl
@[go_sem] theorem vcells_slice (a : Option Addr) (n c : Nat) : vcells (.slice a n c) = [.slice a n c] := rfl
@[go_sem] theorem take_map {α β : Type} (f : α → β) (l : List α) (i : Nat) : (l.map f).take i = (l.take i).map f := List.map_take.symm
@[go_sem] theorem drop_map {α β : Type} (f : α → β) (l : List α) (i : Nat) : (l.map f).drop i = (l.drop i).map f := List.map_drop.symm
attribute [go_sem] List.length_drop
attribute [go_sem] big List.take_succ_cons List.take_zero List.length_append List.length_take 
attribute [go_sem] Bool.not_false Bool.not_true Bool.and_true Bool.true_and Bool.and_false Bool.false_and Bool.or_false Bool.or_true Bool.true_or Bool.false_or List.take_nil List.map_append
end Go.Ab
namespace Go.Ab
variable [Glob]
def initA : Nat → List AV → List (Nat × Option AV)
 | _, [] => []
 | i, x :: xs => (i, some x) :: initA (i + 1) xs
theorem initA_get : ∀ {l : List AV} {i d : Nat} {x : AV}, tget (initA i l) d = some x → i ≤ d ∧ l[d - i]? = some x
 | [], _, _, _, h => by simp [initA, tget] at h
 | y :: l, i, d, x, h => by
  simp only [initA, tget] at h
  split at h
  ·rename_i hb
   have := Nat.eq_of_beq_eq_true hb
   subst this
   simp only [Option.some.injEq] at h
   subst h
   exact ⟨Nat.le_refl _, by simp⟩
  ·rename_i hb
   obtain ⟨h1, h2⟩ := initA_get h
   refine ⟨by omega, ?_⟩
   rw [show d - i = (d - (i + 1)) + 1 by omega]
   simpa using h2
def endA (E : Env) (rs : List ResultVar) (nb : Nat) (r : AV) (L' : List Ob) : Exit → ASt → Prop
 | .normal, s => withC (resVals E s rs) fun xs => wkAll nb ⟨1, [(0, some (resAll xs))], s.L⟩ ⟨1, [(0, some r)], someL L'⟩ (sgOf nb ⟨1, [(0, some (resAll xs))], s.L⟩ [(0, some r)] (someL L'))
 | .ret, s => withC (resVals E s rs) fun xs => wkAll nb ⟨1, [(0, some (resAll xs))], s.L⟩ ⟨1, [(0, some r)], someL L'⟩ (sgOf nb ⟨1, [(0, some (resAll xs))], s.L⟩ [(0, some r)] (someL L'))
 | _, _ => False
theorem someL_eq : ∀ l : List Ob, someL l = l.map some
 | [] => rfl
 | o :: r => by simp [someL, someL_eq r]
theorem yA {E : Env} {f : FuncId} {fn : Func} {c : Code} {args : List AV} {L L' : List Ob} {r : AV} (n : Nat) (rs : List ResultVar) (hf : E.P.funcs[f]? = some fn) (hb : fn.body = some c) (hnt : fn.ntmps = n) (hrs : fn.results.toList = rs) (hname : (fn.name == "runtime.NumGoroutine") = false) (hn : Nat.ble args.length n = true)
  (hl : Nat.ble L.length L'.length = true) (h : awp E.P L.length c (endA E rs L.length r L') ⟨n, initA 0 args, someL L⟩) : ACalls E.P f args L r L' := by
 subst hnt
 subst hrs
 refine ⟨⟨fn, hf, by rw [hb]; rfl, hname⟩, Nat.le_of_ble_eq_true hl, fun Z lb w vals ho hlt0 hr => ?_⟩
 have hn := Nat.le_of_ble_eq_true hn
 have hlen := hr.length
 have hst : St Z lb ⟨fn.ntmps, initA 0 args, someL L⟩ { tmps := vals.toArray ++ Array.replicate (fn.ntmps - vals.toArray.size) undef, defers := [] } w := by
  refine ⟨by rw [someL_eq]; exact ho, ?_, Marks.nil hlt0, by simp; omega⟩
  intro d x hx
  obtain ⟨_, hy⟩ := initA_get hx
  rw [Nat.sub_zero] at hy
  obtain ⟨u, h1, h2⟩ := hr.get d x hy
  have hdl : d < vals.length := by
   rcases Nat.lt_or_ge d vals.length with h' | h'
   ·exact h'
   ·simp [List.getElem?_eq_none h'] at h1
  refine ⟨u, ?_, h2⟩
  rw [Array.getElem?_append_left (by simpa using hdl)]
  simpa using h1
 refine calls_awp hf hb h hst ?_
 rintro ex a' w' Z' lb' s' h1 h2 hdf h3
 have fin : (withC (resVals E s' fn.results.toList) fun xs => wkAll L.length ⟨1, [(0, some (resAll xs))], s'.L⟩ ⟨1, [(0, some r)], someL L'⟩ (sgOf L.length ⟨1, [(0, some (resAll xs))], s'.L⟩ [(0, some r)] (someL L'))) →
   a'.defers = [] ∧ ∃ v, (results fn a'.tmps).run E.P w' = .ok v w' ∧ ∃ u Z' lb', Ending.returned v = .returned u ∧ Own Z' lb' (L'.map some) w' ∧ ARep Z' lb' w' r u ∧
    w'.os = w.os ∧ w'.tape = w.tape ∧ OutD w w' ∧ w.heap.size ≤ w'.heap.size ∧ Keep Z w w' ∧ (∀ b, Z b → Z' b) ∧ (∀ b, Z' b → b < w.heap.size → Z b ∨ ∃ i : Nat, lb[i]? = some (some (some b))) ∧ BsLe w w' ∧
    (∀ b, b < w.heap.size → (∀ i : Nat, lb[i]? ≠ some (some (some b))) → w'.heap[b]? = w.heap[b]?) ∧ (∀ (i : Nat) b, lb'[i]? = some (some (some b)) → (∃ j : Nat, lb[j]? = some (some (some b))) ∨ (w.heap.size ≤ b ∧ b < w'.heap.size)) ∧
    (∀ (i : Nat) x, i < L.length → lb[i]? = some (some x) → lb'[i]? = some (some x)) := by
  intro h3
  obtain ⟨xs, hxs, h3⟩ := withC_some h3
  obtain ⟨u, hrun, hrep⟩ := run_results h2 hxs
  have hst2 : St Z' lb' ⟨1, [(0, some (resAll xs))], s'.L⟩ { tmps := #[u], defers := [] } w' := by
   refine ⟨h2.own, ?_, Marks.nil h2.df.1, rfl⟩
   intro d x hx
   simp only [tget] at hx
   split at hx
   ·rename_i hb
    have := Nat.eq_of_beq_eq_true hb
    subst this
    simp only [Option.some.injEq] at hx
    subst hx
    exact ⟨u, rfl, hrep⟩
   ·simp at hx
  obtain ⟨Z2, lb2, e2, st2⟩ := wk_auto (s' := ⟨1, [(0, some r)], someL L'⟩) h3 Z' lb' _ w' hst2
  obtain ⟨u', k1, k2⟩ := st2.tm 0 r rfl
  simp at k1
  subst k1
  have e := h1.trans e2
  refine ⟨hdf, u, hrun, u, Z2, lb2, rfl, by rw [← someL_eq]; exact st2.own, k2, e.os, e.tape, e.output, e.size, e.keep, e.z1, e.z2, e.bs, e.hp, e.fresh, e.kp⟩
 cases ex with
 | normal => exact ⟨.inl rfl, (fin h3).2⟩
 | ret => exact ⟨.inr rfl, (fin h3).2⟩
 | _ => exact h3.elim
def posN : List Nat → Nat → Nat → Nat
 | [], _, _ => 0
 | y :: l, x, i => match Nat.beq x y with
  | true => i
  | false => posN l x (i + 1)
def pos0 (σ : List Nat) : Nat → Nat := fun j => posN σ j 0
@[go_sem] theorem pos0_app (σ : List Nat) (j : Nat) : pos0 σ j = posN σ j 0 := rfl
def addN : List Nat → Nat → List Nat
 | [], x => [x]
 | y :: l, x => match Nat.beq x y with
  | true => y :: l
  | false => y :: addN l x
def addNs : List Nat → List Nat → List Nat
 | l, [] => l
 | l, x :: xs => addNs (addN l x) xs
def dfs (ℓ : Nat → Option (Option Ob)) : Nat → Nat → List Nat → List Nat
 | 0, _, l => l
 | n + 1, i, l => match nth l i with
  | some j => match ℓ j with
   | some (some (.var cs)) => dfs ℓ n (i + 1) (addNs l (refAs cs))
   | some (some (.pvar _ cs)) => dfs ℓ n (i + 1) (addNs l (refAs cs))
   | some (some (.it q _ _ _)) => dfs ℓ n (i + 1) (addNs l (refA q))
   | some (some (.bld _ q)) => dfs ℓ n (i + 1) (addNs l (refA q))
   | some (some (.lp _ _ _ _ cs)) => dfs ℓ n (i + 1) (addNs l (refAs cs))
   | _ => dfs ℓ n (i + 1) l
  | none => l
def ownS (ℓ : Nat → Option (Option Ob)) (rec : Nat → Option Nat) (i : Nat) : Option Nat := match ℓ i with
 | some (some (.var cs)) => (match cs with
  | .loc j _ :: _ => (match ℓ j with
   | some (some (.var cs')) => (match elN i (refAs cs') with
    | true => some j
    | false => rec j)
   | _ => none)
  | .ifc _ (.loc j _) :: _ => rec j
  | _ => none)
 | _ => none
def ownT (ℓ : Nat → Option (Option Ob)) : Nat → Option Nat := ownS ℓ (ownS ℓ (ownS ℓ (ownS ℓ fun _ => none)))
def ownD (ℓ : Nat → Option (Option Ob)) (i : Nat) : Option Nat := match ℓ i with
 | some (some (.var cs)) => (match cs with
  | .loc j _ :: _ => (match ℓ j with
   | some (some (.var cs')) => (match elN i (refAs cs') with
    | true => some j
    | false => none)
   | _ => none)
  | _ => none)
 | _ => none
def own1 (ℓ : Nat → Option (Option Ob)) : List Nat → List Nat
 | [] => []
 | i :: l => match ownD ℓ i with
  | some d => d :: own1 ℓ l
  | none => match ownT ℓ i with
   | some d => d :: i :: own1 ℓ l
   | none => i :: own1 ℓ l
def lentObs (ℓ : Nat → Option (Option Ob)) (f : Nat → Nat) : List Nat → List Ob
 | [] => []
 | j :: r => match ℓ j with
  | some (some o) => renO f o :: lentObs ℓ f r
  | _ => .dead :: lentObs ℓ f r
def forceN : List Nat → (List Nat → Prop) → Prop
 | [], k => k []
 | x :: xs, k => forceN xs fun l => k (x :: l)
structure forceX (l : List Nat) (k : List Nat → Prop) (_ : Tag k := ⟨⟩) : Prop where
 run : k l
theorem forceX_eq (l : List Nat) (k : List Nat → Prop) (t : Tag k) : forceX l k t = k l := propext ⟨fun h => h.run, fun h => ⟨h⟩⟩
@[go_sem] theorem forceX_nil (k : List Nat → Prop) (t : Tag k) : forceX [] k t = k [] := forceX_eq _ _ _
@[go_sem] theorem forceX_cons (x : Nat) (l : List Nat) (k : List Nat → Prop) (t : Tag k) : forceX (x :: l) k t = forceX l (fun l => k (x :: l)) ⟨⟩ := by rw [forceX_eq, forceX_eq]
@[congr] theorem forceX_congr {l l' : List Nat} {k : List Nat → Prop} {t : Tag k} (h : l = l') : forceX l k t = forceX l' k t := by rw [h]
def dfsK (ℓ : Nat → Option (Option Ob)) : Nat → Nat → List Nat → (k : List Nat → Prop) → Tag k → Prop
 | 0, _, l, k, _ => k l
 | n + 1, i, l, k, t => match nth l i with
  | some j => match ℓ j with
   | some (some (.var cs)) => forceX (addNs l (refAs cs)) fun l => dfsK ℓ n (i + 1) l k t
   | some (some (.pvar _ cs)) => forceX (addNs l (refAs cs)) fun l => dfsK ℓ n (i + 1) l k t
   | some (some (.it q _ _ _)) => forceX (addNs l (refA q)) fun l => dfsK ℓ n (i + 1) l k t
   | some (some (.bld _ q)) => forceX (addNs l (refA q)) fun l => dfsK ℓ n (i + 1) l k t
   | some (some (.lp _ _ _ _ cs)) => forceX (addNs l (refAs cs)) fun l => dfsK ℓ n (i + 1) l k t
   | _ => dfsK ℓ n (i + 1) l k t
  | none => k l
theorem dfsK_eq (ℓ : Nat → Option (Option Ob)) (k : List Nat → Prop) (t : Tag k) : ∀ (n i : Nat) (l : List Nat), dfsK ℓ n i l k t = k (dfs ℓ n i l)
 | 0, _, _ => rfl
 | n + 1, i, l => by
  simp only [dfsK, dfs]
  split
  ·split <;> first | rw [forceX_eq, dfsK_eq ℓ k t n] | rw [dfsK_eq ℓ k t n]
  ·rfl
@[congr] theorem dfsK_congr {ℓ : Nat → Option (Option Ob)} {n i i' : Nat} {l l' : List Nat} {k : List Nat → Prop} {t : Tag k} (h : l = l') (h2 : i = i') : dfsK ℓ n i l k t = dfsK ℓ n i' l' k t := by rw [h, h2]
def lenN : List Nat → Nat
 | [] => 0
 | _ :: l => lenN l + 1
structure forceI (i : Nat) (k : Nat → Prop) (_ : Tag k) : Prop where
 run : k i
@[go_sem] theorem forceI_eq (i : Nat) (k : Nat → Prop) (t : Tag k) : forceI i k t = k i := propext ⟨fun h => h.run, fun h => ⟨h⟩⟩
def dfsS (ℓ : Nat → Option (Option Ob)) : List Nat → List Nat → List Nat
 | [], σ => σ
 | r :: rs, σ => dfsS ℓ rs (dfs ℓ 16 (lenN σ) (addN σ r))
def dfsSK (ℓ : Nat → Option (Option Ob)) : List Nat → List Nat → (k : List Nat → Prop) → Tag k → Prop
 | [], σ, k, _ => k σ
 | r :: rs, σ, k, t => forceX (addN σ r) fun l => forceI (lenN σ) (fun i => dfsK ℓ 16 i l (fun l => dfsSK ℓ rs l k t) ⟨⟩) ⟨⟩
theorem dfsSK_eq (ℓ : Nat → Option (Option Ob)) (k : List Nat → Prop) (t : Tag k) : ∀ (rs σ : List Nat), dfsSK ℓ rs σ k t = k (dfsS ℓ rs σ)
 | [], _ => rfl
 | r :: rs, σ => by rw [dfsSK, forceX_eq, forceI_eq, dfsK_eq, dfsSK_eq ℓ k t rs, dfsS]
@[go_sem ↓] theorem dfsSK_nil (ℓ : Nat → Option (Option Ob)) (k : List Nat → Prop) (t : Tag k) (σ : List Nat) : dfsSK ℓ [] σ k t = k σ := by rw [dfsSK_eq]; rfl
@[go_sem ↓] theorem dfsSK_cons (ℓ : Nat → Option (Option Ob)) (k : List Nat → Prop) (t : Tag k) (r : Nat) (rs σ : List Nat) : dfsSK ℓ (r :: rs) σ k t = forceX (addN σ r) fun l => forceI (lenN σ) (fun i => dfsK ℓ 16 i l (fun l => dfsSK ℓ rs l k t) ⟨⟩) ⟨⟩ := by rw [dfsSK]
@[congr] theorem dfsSK_congr {ℓ : Nat → Option (Option Ob)} {rs rs' σ σ' : List Nat} {k : List Nat → Prop} {t : Tag k} (h : rs = rs') (h2 : σ = σ') : dfsSK ℓ rs σ k t = dfsSK ℓ rs' σ' k t := by rw [h, h2]
def forceB : List Ob → (List Ob → Prop) → Prop
 | [], k => k []
 | x :: xs, k => forceB xs fun l => k (x :: l)
theorem forceB_eq : ∀ (l : List Ob) (k : List Ob → Prop), forceB l k = k l
 | [], _ => rfl
 | x :: xs, k => by rw [forceB, forceB_eq xs]
def afterN (ℓ : Nat → Option (Option Ob)) (f : Nat → Nat) : Nat → List Ob → List (Nat × Option Ob) → (List (Nat × Option Ob) → Prop) → Prop
 | _, [], acc, K => K acc
 | r, q :: L, acc, K => onB (isHole (ℓ r)) <| afterN ℓ f (r + 1) L (acc ++ [(r, some (renO f q))]) K
def afterA (ℓ : Nat → Option (Option Ob)) (rank : Nat) (σ : List Nat) : List Nat → List Ob → List (Nat × Option Ob) → (List (Nat × Option Ob) → Prop) → Prop
 | [], L, acc, K => afterN ℓ (atF σ rank) rank L acc K
 | j :: r, o :: L, acc, K => afterA ℓ rank σ r L (acc ++ [(j, some (renO (atF σ rank) o))]) K
 | _ :: _, [], _, _ => False
def callA (E : Env) (g : FuncId) (cas : List AV) (Lc : List Ob) (K : AV → List Ob → Prop) (_ : Tag K) : Prop := ∃ r L', ACalls E.P g cas Lc r L' ∧ K r L'
theorem zJ {E : Env} {g : FuncId} {cas : List AV} {Lc : List Ob} {K : AV → List Ob → Prop} {t : Tag K} {r : AV} {L' : List Ob} (h : ACalls E.P g cas Lc r L') (hK : K r L') : callA E g cas Lc K t := ⟨r, L', h, hK⟩
def lendK (E : Env) (rank : Nat) (g : FuncId) (ℓ : Nat → Option (Option Ob)) (as : List AV) (K : Eff → Prop) : Prop :=
 forceX (own1 ℓ (refAs as)) fun l1 => dfsSK ℓ l1 [] (fun σ => forceA (renAs (pos0 σ) as) fun cas => forceB (lentObs ℓ (pos0 σ) σ) fun Lc =>
  (renAs (atF σ rank) cas = as ∧ inBs σ.length cas = true ∧ lentOk ℓ (atF σ rank) σ.length σ Lc ∧ freshN σ = true) ∧
   callA E g cas Lc (fun r L' => afterA ℓ rank σ σ L' [] fun wr => K ⟨some (renA (atF σ rank) r), [], wr⟩) ⟨⟩) ⟨⟩
theorem afterN_ok {ℓ : Nat → Option (Option Ob)} {f : Nat → Nat} {K : List (Nat × Option Ob) → Prop} : ∀ {L : List Ob} {r : Nat} {acc : List (Nat × Option Ob)}, afterN ℓ f r L acc K → holesOk ℓ r L ∧ K (acc ++ nwW f r L)
 | [], r, acc, h => ⟨trivial, by simp only [afterN] at h; simpa [nwW] using h⟩
 | q :: L, r, acc, h => by
  simp only [afterN] at h
  obtain ⟨h1, h2⟩ := onB_some h
  obtain ⟨h3, h4⟩ := afterN_ok h2
  exact ⟨⟨h1, h3⟩, by simpa [nwW] using h4⟩
theorem afterA_ok {ℓ : Nat → Option (Option Ob)} {rank : Nat} {σ : List Nat} {K : List (Nat × Option Ob) → Prop} : ∀ {τ : List Nat} {L' : List Ob} {acc : List (Nat × Option Ob)}, afterA ℓ rank σ τ L' acc K →
  ∃ M nw, L' = M ++ nw ∧ M.length = τ.length ∧ holesOk ℓ rank nw ∧ K (acc ++ (zipW (atF σ rank) τ M ++ nwW (atF σ rank) rank nw))
 | [], L, acc, h => by
  simp only [afterA] at h
  obtain ⟨h1, h2⟩ := afterN_ok h
  exact ⟨[], L, rfl, rfl, h1, by simpa [zipW] using h2⟩
 | _ :: _, [], acc, h => h.elim
 | j :: τ, o :: L', acc, h => by
  simp only [afterA] at h
  obtain ⟨M, nw, rfl, h2, h3, h4⟩ := afterA_ok h
  exact ⟨o :: M, nw, rfl, by simp [h2], h3, by simpa [zipW] using h4⟩
theorem vCallA_go {E : Env} {rank : Nat} {g : FuncId} {args : List Operand} {caps : List AV} {ρ : Operand → Option AV} {ℓ : Nat → Option (Option Ob)} {K : Eff → Prop} (h : withC (gatherA ρ args) fun as => lendK E rank g ℓ (appA as caps) K) : vCallA E rank g args caps ρ ℓ K := by
 unfold vCallA
 obtain ⟨as, h1, h2⟩ := withC_some h
 rw [h1]
 unfold lendK at h2
 rw [forceX_eq, dfsSK_eq, forceA_eq, forceB_eq] at h2
 obtain ⟨⟨e1, e2, e3, e4⟩, r, L', hc, h3⟩ := h2
 obtain ⟨M, nw, rfl, hM, hnw, hK⟩ := afterA_ok h3
 exact ⟨_, _, _, r, M, nw, ⟨e1, e2⟩, e3, e4, hM, hnw, hc, by simpa using hK⟩
theorem zI {E : Env} {rank : Nat} {g : FuncId} {args : List Operand} {caps : List AV} {ρ : Operand → Option AV} {ℓ : Nat → Option (Option Ob)} {K : Eff → Prop} {t : Tag (vCallA E rank g args caps ρ ℓ K)} (h : withC (gatherA ρ args) fun as => lendK E rank g ℓ (appA as caps) K) : hideP (vCallA E rank g args caps ρ ℓ K) t := vCallA_go h
theorem hidePI_own {E : Env} {rank : Nat} {g : FuncId} {x : AV} {args : List Operand} {ρ : Operand → Option AV} {ℓ : Nat → Option (Option Ob)} {K : Eff → Prop} {t : Tag (vCallI E rank g x args ρ ℓ K)} (h : withC (gatherA ρ args) fun as => lendK E rank g ℓ (x :: as) K) : hideP (vCallI E rank g x args ρ ℓ K) t := by
 unfold hideP vCallI
 obtain ⟨as, h1, h2⟩ := withC_some h
 rw [h1]
 unfold lendK at h2
 rw [forceX_eq, dfsSK_eq, forceA_eq, forceB_eq] at h2
 obtain ⟨⟨e1, e2, e3, e4⟩, r, L', hc, h3⟩ := h2
 obtain ⟨M, nw, rfl, hM, hnw, hK⟩ := afterA_ok h3
 exact ⟨_, _, _, r, M, nw, ⟨e1, e2⟩, e3, e4, hM, hnw, hc, by simpa using hK⟩
@[congr] theorem onF_congr {α : Type} {x x' : Option α} {k : α → Prop} (h : x = x') : onF x k = onF x' k := by rw [h]
attribute [go_sem ↓] vInvoke vIface onF
attribute [go_sem] ownS ownT ownD
theorem zG {E : Env} {rank : Nat} {g : FuncId} {ps : List PV} {args : List Operand} {caps : List AV} {ρ : Operand → Option AV} {ℓ : Nat → Option (Option Ob)} {K : Eff → Prop} {K1 : PV → Prop} {t : Tag (vCallA E rank g args caps ρ ℓ K)} {u : Tag K1} (h : withC (gatherA ρ args) fun as => lendK E rank g ℓ (appA as caps) K) : callK E g ps (vCallA E rank g args caps ρ ℓ K) K1 t u := callK_own (vCallA_go h)
theorem zH {E : Env} {rank : Nat} {g : FuncId} {ps : List PV} {args : List Operand} {caps : List AV} {ρ : Operand → Option AV} {ℓ : Nat → Option (Option Ob)} {K : Eff → Prop} {K1 K2 : PV → Prop} {t : Tag (vCallA E rank g args caps ρ ℓ K)} {u : Tag K1} {v : Tag K2} (h : withC (gatherA ρ args) fun as => lendK E rank g ℓ (appA as caps) K) : callF E g ps (vCallA E rank g args caps ρ ℓ K) K1 K2 t u v := callF_own (vCallA_go h)
@[go_sem] theorem live_arr (sz : Nat) (es : List PV) : (Ob.arr sz es).live = True := rfl
@[go_sem] theorem live_var (cs : List AV) : (Ob.var cs).live = True := rfl
@[go_sem] theorem live_mpx (kk : Option IntKind) (es : Array MapEntry) (cl : Nat) : (Ob.mpx kk es cl).live = True := rfl
@[go_sem] theorem live_it (q : AV) (a : Nat) (s : Array Nat) (l : Nat) : (Ob.it q a s l).live = True := rfl
@[go_sem] theorem live_pvar (m : Nat) (cs : List AV) : (Ob.pvar m cs).live = True := rfl
@[go_sem] theorem live_lp (l : Nat) (mk : Array Value → Obj) (n : Nat) (ds : List Nat) (cs : List AV) : (Ob.lp l mk n ds cs).live = True := rfl
@[go_sem] theorem live_bld (T : TypeId) (q : AV) : (Ob.bld T q).live = True := rfl
@[go_sem] theorem live_mp (k : Option IntKind) (e : EK) : (Ob.mp k e).live = True := rfl
@[go_sem] theorem live_byt (e : TypeId) (bs : List UInt8) : (Ob.byt e bs).live = True := rfl
@[congr] theorem callA_congr {E : Env} {g : FuncId} {cas cas' : List AV} {Lc Lc' : List Ob} {K : AV → List Ob → Prop} {t : Tag K} (h : cas = cas') (h2 : Lc = Lc') : callA E g cas Lc K t = callA E g cas' Lc' K t := by rw [h, h2]
@[congr] theorem forceN_congr {l l' : List Nat} {k : List Nat → Prop} (h : l = l') : forceN l k = forceN l' k := by rw [h]
@[congr] theorem forceB_congr {l l' : List Ob} {k : List Ob → Prop} (h : l = l') : forceB l k = forceB l' k := by rw [h]
@[congr] theorem endA_congr {E : Env} {rs : List ResultVar} {nb : Nat} {r : AV} {L' : List Ob} {e : Exit} {s s' : ASt} (h : s = s') : endA E rs nb r L' e s = endA E rs nb r L' e s' := by rw [h]
attribute [go_sem] initA posN addN addNs own1 dfsK lenN lentObs forceN forceB afterA afterN lendK atF zeroO Int.sub_zero Int.zero_sub Int.add_zero Int.zero_add Nat.add_zero Nat.sub_zero and_self Nat.zero_le or_true true_or or_false false_or List.cons_ne_nil Int.toNat_zero
theorem zB {α β : Type} {f : α → β} {l : List α} {n : Int} {j : Nat} {k : β → Prop} {t : Tag k} (d : α) (h0 : 0 ≤ n) (h1 : j < l.length) (hk : k (f (l.getD j d))) : pickE (fun e => 0 ≤ n ∧ (l.map f)[j]? = some e) k t := by
 refine ⟨_, ⟨h0, ?_⟩, hk⟩
 simp [List.getD_eq_getElem?_getD, h1]
@[go_sem] theorem fdiv_pow (x : Int) (n : Nat) : x.fdiv (2 ^ n) = x / (2 ^ n) := Int.fdiv_eq_ediv_of_nonneg _ (by exact Int.pow_nonneg (by omega))
@[go_sem] theorem tn_half (i j : Nat) : (((i : Int) + j) / 2).toNat = (i + j) / 2 := by omega
attribute [go_sem] IntKind.bits Int.natCast_ediv
attribute [go_sem ↓] forceN forceB
end Go.Ab
namespace Go.Ab
variable [Glob]
open Go.ChangeShapes Go.WideShapes Go.RowKit
def wrapP (agg : Bool) (ps : List PV) : PV := match agg with
 | true => .agg ps
 | false => ps.headD (.v undef)
def shpF (rc : TypeId → List PV → Prop) : List FI → List PV → Prop
 | [], ps => ps = []
 | f :: fs, ps => ∃ a b, ps = a ++ b ∧ rc f.ty a ∧ shpF rc fs b
def shpN (rc : List PV → Prop) : Nat → List PV → Prop
 | 0, ps => ps = []
 | n + 1, ps => ∃ a b, ps = a ++ b ∧ rc a ∧ shpN rc n b
def Shp (tys : List (TypeId × TyI)) : Nat → TypeId → List PV → Prop
 | 0, _, _ => False
 | d + 1, T, ps => match tfind tys T with
  | none => False
  | some i => match i.k with
   | .int k => ∃ n, ps = [.v (.int k n)] ∧ k.min ≤ n ∧ n ≤ k.max
   | .bool => ∃ b, ps = [.v (.bool b)]
   | .str => ∃ s : ByteArray, ps = [.v (.string s)] ∧ s.size ≤ reachBytes
   | .slice e sz eb _ => ∃ es : List (List PV), ps = [.view sz (es.map (wrapP (match tfind tys e with | some j => j.k.isAgg | none => false)))] ∧ es.length * eb ≤ reachBytes ∧ ∀ c, c ∈ es → Shp tys d e c
   | .struct fs => shpF (Shp tys d) fs ps
   | .arr n e _ _ => shpN (Shp tys d e) n ps
   | _ => False
def contF (rc : TypeId → Nat → Bool) : Nat → List FI → Nat → Bool
 | off, [], n => Nat.beq off n
 | off, f :: fs, n => Nat.beq f.off off && rc f.ty f.size && contF rc (off + f.size) fs n
def shOk (tys : List (TypeId × TyI)) : Nat → TypeId → Nat → Bool
 | 0, _, _ => false
 | d + 1, T, sz => match tfind tys T with
  | none => false
  | some i => Nat.beq i.size sz && (match i.k with
   | .int _ => Nat.beq sz 1
   | .bool => Nat.beq sz 1
   | .str => Nat.beq sz 1
   | .slice e esz eb _ => Nat.beq sz 1 && Nat.blt 0 esz && Nat.blt 0 eb && shOk tys d e esz
   | .struct fs => contF (shOk tys d) 0 fs sz
   | .arr n e esz _ => Nat.beq (n * esz) sz && shOk tys d e esz
   | _ => false)
section
variable {H : Type} {enc : TypeId × Value → H} {E : Env} {w : World}
def WB (P : Program) (T : TypeId) (x : DataW H) : Prop := ∀ n, n ∈ x.weights P T → n ≤ reachBytes
theorem mem_weightsEach {P : Program} : ∀ {ts : List TypeId} {ds : List (DataW H)} {i : Nat} {t : TypeId} {d : DataW H}, ts[i]? = some t → ds[i]? = some d → ∀ n, n ∈ d.weights P t → n ∈ DataW.weightsEach P ts ds
 | [], _, i, _, _, h, _, _, _ => by simp at h
 | _ :: _, [], i, _, _, _, h, _, _ => by simp at h
 | t :: ts, d :: ds, 0, _, _, h1, h2, n, hn => by
  simp at h1 h2; subst h1; subst h2
  simp only [DataW.weightsEach]; exact List.mem_append.2 (.inl hn)
 | t :: ts, d :: ds, i + 1, _, _, h1, h2, n, hn => by
  simp only [DataW.weightsEach]; exact List.mem_append.2 (.inr (mem_weightsEach (by simpa using h1) (by simpa using h2) n hn))
theorem mem_weightsAll {P : Program} {t : TypeId} : ∀ {ds : List (DataW H)} {d : DataW H}, d ∈ ds → ∀ n, n ∈ d.weights P t → n ∈ DataW.weightsAll P t ds
 | [], _, h, _, _ => by simp at h
 | e :: ds, d, h, n, hn => by
  simp only [DataW.weightsAll]
  rcases List.mem_cons.1 h with rfl | h
  ·exact List.mem_append.2 (.inl hn)
  ·exact List.mem_append.2 (.inr (mem_weightsAll h n hn))
theorem bytesOf_of {P : Program} {T : TypeId} {j : TypeInfo} (h : P.info? T = some j) : P.bytesOf T = j.bytes := by simp [Program.bytesOf, h]
def Zall (w : World) : Nat → Prop := fun b => b < w.heap.size
theorem cellsOf_of {P : Program} {T : TypeId} {j : TypeInfo} (h : P.info? T = some j) : P.cellsOf T = j.size := by simp [Program.cellsOf, h]
theorem pick_lists {α β : Type} {R : Nat → α → β → Prop} : ∀ n : Nat, (∀ i, i < n → ∃ a b, R i a b) → ∃ (as : List α) (bs : List β), as.length = n ∧ bs.length = n ∧ ∀ i a b, as[i]? = some a → bs[i]? = some b → R i a b
 | 0, _ => ⟨[], [], rfl, rfl, fun i a b h => by simp at h⟩
 | n + 1, h => by
  obtain ⟨as, bs, h1, h2, h3⟩ := pick_lists n (fun i hi => h i (by omega))
  obtain ⟨a, b, hab⟩ := h n (by omega)
  refine ⟨as ++ [a], bs ++ [b], by simp [h1], by simp [h2], fun i a' b' ha hb => ?_⟩
  rcases Nat.lt_trichotomy i n with hlt | heq | hgt
  ·rw [List.getElem?_append_left (by omega)] at ha hb
   exact h3 i a' b' ha hb
  ·subst heq
   rw [List.getElem?_append_right (by omega), h1, Nat.sub_self] at ha
   rw [List.getElem?_append_right (by omega), h2, Nat.sub_self] at hb
   simp at ha hb
   subst ha; subst hb; exact hab
  ·rw [List.getElem?_eq_none (by simp; omega)] at ha; simp at ha
theorem reps_of_all {Z : Nat → Prop} {w : World} : ∀ {ps : List PV} {vs : List Value}, ps.length = vs.length → (∀ (i : Nat) p v, ps[i]? = some p → vs[i]? = some v → Rep Z w p v) → Reps Z w ps vs
 | [], vs, h, _ => by
  have : vs = [] := List.length_eq_zero_iff.1 (by simpa using h.symm)
  subst this; rfl
 | p :: ps, [], h, _ => by simp at h
 | p :: ps, v :: vs, h, hr => by
  simp only [Reps]
  exact ⟨v, vs, rfl, hr 0 p v rfl rfl, reps_of_all (by simpa using h) fun i p' v' h1 h2 => hr (i + 1) p' v' (by simpa using h1) (by simpa using h2)⟩
theorem allOne_append {a b : List Value} (ha : AllOne a) (hb : AllOne b) : AllOne (a ++ b) := fun x hx => by
 rcases List.mem_append.1 hx with h | h
 ·exact ha x h
 ·exact hb x h
theorem wf_bounds {k : IntKind} {n : Int} (h : (Lit.int k n).wf = true) : k.min ≤ n ∧ n ≤ k.max := by
 simp only [Lit.wf, Bool.and_eq_true, decide_eq_true_eq] at h; exact h
theorem fields_rep {P : Program} {d : Nat} {tys : List (TypeId × TyI)} {tr : TypeId → List Value → Option (DataW H × List MemPlace)}
  (ih : ∀ T sz cs x, shOk tys d T sz = true → tr T cs = some x → WB P T x.1 → cs.length = sz → ∃ ps, Reps (Zall w) w ps cs ∧ Shp tys d T ps ∧ AllOne cs) :
  ∀ (l : List Field) (fs : List FI), fieldsOf P l = some fs → ∀ (off n : Nat) (cs : List Value), contF (shOk tys d) off fs n = true → cs.length = n → off ≤ n →
   (∀ f, f ∈ l → ∃ x, tr f.type ((cs.drop f.offset).take (P.cellsOf f.type)) = some x ∧ WB P f.type x.1) → ∃ ps, Reps (Zall w) w ps (cs.drop off) ∧ shpF (Shp tys d) fs ps ∧ AllOne (cs.drop off)
 | [], fs, hf, off, n, cs, hc, hl, hoff, _ => by
  simp only [fieldsOf, Option.some.injEq] at hf
  subst hf
  simp only [contF] at hc
  have := Nat.eq_of_beq_eq_true hc
  rw [List.drop_of_length_le (by omega)]
  exact ⟨[], rfl, rfl, fun x hx => by simp at hx⟩
 | f :: l, fs, hf, off, n, cs, hc, hl, hoff, hx => by
  simp only [fieldsOf] at hf
  split at hf
  ·rename_i i dd r h1 h2 h3
   simp only [Option.some.injEq] at hf
   subst hf
   simp only [contF, Bool.and_eq_true] at hc
   obtain ⟨⟨c1, c2⟩, c3⟩ := hc
   have c1 := Nat.eq_of_beq_eq_true c1
   have hle : off + i.size ≤ n := by
    clear hx ih h3 c2
    revert c3
    generalize off + i.size = o
    intro c3
    have key : ∀ (r : List FI) (o : Nat), contF (shOk tys d) o r n = true → o ≤ n := by
     intro r
     induction r with
     | nil => intro o h; simp only [contF] at h; exact Nat.le_of_eq (Nat.eq_of_beq_eq_true h)
     | cons q r ihr =>
      intro o h
      simp only [contF, Bool.and_eq_true] at h
      have := ihr _ h.2
      omega
    exact key r o c3
   obtain ⟨x, hx0, hwb⟩ := hx f List.mem_cons_self
   rw [cellsOf_of h1, c1] at hx0
   obtain ⟨p1, r1, s1, o1⟩ := ih f.type i.size _ x c2 hx0 hwb (by rw [List.length_take, List.length_drop]; omega)
   obtain ⟨p2, r2, s2, o2⟩ := fields_rep ih l r h3 (off + i.size) n cs c3 hl hle (fun g hg => hx g (List.mem_cons_of_mem _ hg))
   have e : cs.drop off = (cs.drop off).take i.size ++ cs.drop (off + i.size) := by rw [← List.drop_drop, List.take_append_drop]
   refine ⟨p1 ++ p2, ?_, ⟨p1, p2, rfl, s1, s2⟩, ?_⟩
   ·rw [e]; exact r1.append r2
   ·rw [e]; exact allOne_append o1 o2
  ·simp at hf
theorem arr_rep {d sz : Nat} {tys : List (TypeId × TyI)} {T : TypeId} {tr : List Value → Option (DataW H × List MemPlace)}
  {wb : DataW H → Prop} (ih : ∀ cs x, tr cs = some x → wb x.1 → cs.length = sz → ∃ ps, Reps (Zall w) w ps cs ∧ Shp tys d T ps ∧ AllOne cs) :
  ∀ (n : Nat) (cs : List Value), cs.length = n * sz → (∀ i, i < n → ∃ x, tr ((cs.drop (i * sz)).take sz) = some x ∧ wb x.1) → ∃ ps, Reps (Zall w) w ps cs ∧ shpN (Shp tys d T) n ps ∧ AllOne cs
 | 0, cs, hl, _ => by
  have : cs = [] := List.length_eq_zero_iff.1 (by simpa using hl)
  subst this
  exact ⟨[], rfl, rfl, fun x hx => by simp at hx⟩
 | n + 1, cs, hl, hx => by
  rw [Nat.succ_mul] at hl
  obtain ⟨x, hx0, hwb⟩ := hx 0 (by omega)
  rw [Nat.zero_mul, List.drop_zero] at hx0
  obtain ⟨p1, r1, s1, o1⟩ := ih _ x hx0 hwb (by rw [List.length_take]; omega)
  obtain ⟨p2, r2, s2, o2⟩ := arr_rep ih n (cs.drop sz) (by rw [List.length_drop]; omega) (fun i hi => by
   obtain ⟨y, hy, hwb'⟩ := hx (i + 1) (by omega)
   refine ⟨y, ?_, hwb'⟩
   rw [List.drop_drop, show sz + i * sz = (i + 1) * sz by rw [Nat.succ_mul]; omega]; exact hy)
  have e : cs = cs.take sz ++ cs.drop sz := (List.take_append_drop _ _).symm
  refine ⟨p1 ++ p2, ?_, ⟨p1, p2, rfl, s1, s2⟩, ?_⟩
  ·rw [e]; exact r1.append r2
  ·rw [e]; exact allOne_append o1 o2
theorem trod_rep {sp : Nat → Bool} : ∀ (d : Nat) (fuel : Nat) (T : TypeId) (sz : Nat) (cs : List Value) (x : DataW H × List MemPlace), shOk E.tys d T sz = true → DataW.trod enc E.P w 0 sp true fuel T cs = some x → WB E.P T x.1 → cs.length = sz →
  ∃ ps, Reps (Zall w) w ps cs ∧ Shp E.tys d T ps ∧ AllOne cs
 | 0, _, _, _, _, _, h, _, _, _ => by simp [shOk] at h
 | d + 1, fuel, T, sz, cs, x, hok, h, hwb, hlen => by
  simp only [shOk] at hok
  simp only [Shp]
  cases hT : tfind E.tys T with
  | none => rw [hT] at hok; simp at hok
  | some i =>
   rw [hT] at hok
   simp only [hT]
   simp only [Bool.and_eq_true] at hok
   obtain ⟨hsz, hok⟩ := hok
   have hsz := Nat.eq_of_beq_eq_true hsz
   obtain ⟨ds, inf, z, F⟩ := tyOf_some (E.ok _ _ hT)
   have one : ∀ v : Value, oneB v = true → AllOne [v] := fun v hv y hy => by simp at hy; subst hy; exact hv
   cases hk : i.k with
   | int k =>
    simp only [hk]
    obtain ⟨n, rfl, rfl, hw⟩ := DataW.trod_int (by rw [F.und, F.int hk]) h
    exact ⟨[.v (.int k n)], ⟨_, [], rfl, ⟨rfl, rfl⟩, rfl⟩, ⟨n, rfl, wf_bounds hw⟩, one _ rfl⟩
   | bool =>
    simp only [hk]
    obtain ⟨b, rfl, rfl⟩ := DataW.trod_bool (by rw [F.und, F.bool hk]) h
    exact ⟨[.v (.bool b)], ⟨_, [], rfl, ⟨rfl, rfl⟩, rfl⟩, ⟨b, rfl⟩, one _ rfl⟩
   | str =>
    simp only [hk]
    obtain ⟨s, rfl, rfl, hs⟩ := DataW.trod_string (by rw [F.und, F.str hk]) h
    exact ⟨[.v (.string s)], ⟨_, [], rfl, ⟨rfl, rfl⟩, rfl⟩, ⟨s, rfl, by have := hwb s.data.toList.length (by simp [DataW.weights]); simpa using this⟩, one _ rfl⟩
   | struct fs =>
    simp only [hk]
    rw [hk] at hok
    obtain ⟨l, hl1, hl2⟩ := F.struct hk
    obtain ⟨xs, m, _, rfl, hcl, hxl, hxs⟩ := DataW.trod_struct (by rw [F.und, hl1]) h
    obtain ⟨ps, r, s, o⟩ := fields_rep (w := w) (P := E.P) (tr := fun T cs => DataW.trod enc E.P w 0 sp true m T cs) (fun T' sz' cs' x' h1 h2 h3 h4 => trod_rep d m T' sz' cs' x' h1 h2 h3 h4) l.toList fs hl2 0 sz cs hok hlen (Nat.zero_le _) (fun f hf => by
     obtain ⟨q, hq, rfl⟩ := List.mem_iff_getElem.1 hf
     have hq' : q < l.size := by simpa using hq
     have := hxs q l[q] (by simp [hq'])
     have hqx : xs[q]? = some (xs[q]'(by omega)) := by simp [show q < xs.length by omega]
     refine ⟨xs[q]'(by omega), ?_, fun n hn => hwb n ?_⟩
     ·rw [Array.getElem_toList, this]; exact hqx
     ·simp only [DataW.weights, F.und, hl1]
      refine mem_weightsEach (i := q) (t := l.toList[q].type) (d := (xs[q]'(by omega)).1) (by simp [hq']) (by simp [show q < xs.length by omega]) n hn)
    rw [List.drop_zero] at r o
    exact ⟨ps, r, s, o⟩
   | arr n e esz ea =>
    simp only [hk]
    rw [hk] at hok
    simp only [Bool.and_eq_true] at hok
    obtain ⟨h1, j, dd, j1, j2, j3, j4⟩ := F.arr hk
    obtain ⟨xs, m, _, rfl, hcl, hxl, hxs⟩ := DataW.trod_array (by rw [F.und, h1]) h
    rw [cellsOf_of j1, j3] at hxs
    have := Nat.eq_of_beq_eq_true hok.1
    exact arr_rep (w := w) (tr := fun cs => DataW.trod enc E.P w 0 sp true m e cs) (wb := WB E.P e) (fun cs' x' h2 h3 h4 => trod_rep d m e esz cs' x' hok.2 h2 h3 h4) n cs (by omega) (fun i hi => ⟨xs[i]'(by omega), by
     rw [hxs i hi]; simp [show i < xs.length by omega], fun n hn => hwb n (by
     simp only [DataW.weights, F.und, h1]
     exact mem_weightsAll (d := (xs[i]'(by omega)).1) (List.mem_map.2 ⟨xs[i]'(by omega), by simp, rfl⟩) n hn)⟩)
   | slice e esz eb ez =>
    simp only [hk]
    rw [hk] at hok
    simp only [Bool.and_eq_true] at hok
    obtain ⟨⟨⟨_, hpos⟩, hbpos⟩, hoe⟩ := hok
    have hpos : 0 < esz := Nat.le_of_ble_eq_true hpos
    have hbpos : 0 < eb := Nat.le_of_ble_eq_true hbpos
    obtain ⟨h1, j, zz, j1, j2, j3, j4, j5⟩ := F.slice hk
    have hce : E.P.cellsOf e = esz := by rw [cellsOf_of j1, j3]
    rcases DataW.trod_slice (by rw [F.und, h1]) h with ⟨rfl, rfl⟩ | ⟨a, len, cap, elems, rest, m, _, rfl, rfl, _, hlc, hcap, hel, helem, _, _⟩
    ·refine ⟨[.view esz []], ⟨_, [], rfl, ?_, rfl⟩, ⟨[], rfl, by simp, fun c hc => by simp at hc⟩, one _ rfl⟩
     simp only [Rep]
     exact ⟨[], none, 0, rfl, rfl, hpos, fun x hx => by simp at hx, Nat.zero_le _, rfl, rfl⟩
    ·-- the elements
     have hlenb : len * eb ≤ reachBytes := by
      have := hwb ((elems.length + rest.length) * E.P.bytesOf e) (by simp [DataW.weights, F.und, h1])
      rw [bytesOf_of j1, j4, hel] at this
      have h2 : len * eb ≤ (len + rest.length) * eb := Nat.mul_le_mul_right _ (by omega)
      omega
     have hlenb' : len ≤ big := by
      have : len * 1 ≤ len * eb := Nat.mul_le_mul_left _ hbpos
      have h3 : reachBytes ≤ big := by decide
      omega
     have hTe : ∃ q, tfind E.tys e = some q := by
      cases d with
      | zero => simp [shOk] at hoe
      | succ d =>
       simp only [shOk] at hoe
       cases hq : tfind E.tys e with
       | none => rw [hq] at hoe; simp at hoe
       | some q => exact ⟨q, rfl⟩
     obtain ⟨q, hq⟩ := hTe
     obtain ⟨dq, iq, zq, Fq⟩ := tyOf_some (E.ok _ _ hq)
     have hqs : q.size = esz := by rw [Fq.size]; have := Fq.hi; rw [j1] at this; simp only [Option.some.injEq] at this; rw [← this, j3]
     have hnagg : q.k.isAgg = false → esz = 1 := by
      intro hna
      cases d with
      | zero => simp [shOk] at hoe
      | succ d =>
       simp only [shOk, hq, Bool.and_eq_true] at hoe
       have h2 := hoe.2
       cases hqk : q.k <;> simp only [hqk] at h2 hna <;> first
        | exact Nat.eq_of_beq_eq_true h2
        | (simp only [Bool.and_eq_true] at h2; exact Nat.eq_of_beq_eq_true h2.1.1)
        | (simp [TK.isAgg] at hna; done)
        | (simp at h2; exact h2.1.1.1)
        | (simp at h2; done)
     have hex : ∀ i, i < len → ∃ (ci : List Value) (pi : List PV), (∀ k u, ci[k]? = some u → w.cell? ((a.add (i * esz)).add k) = some u) ∧ ci.length = esz ∧ Reps (Zall w) w pi ci ∧ Shp E.tys d e pi ∧ AllOne ci := by
      intro i hi
      have hb := helem i hi
      rw [hce] at hb
      have hs : elems[i]? = some (elems[i]'(by omega)) := by simp [show i < elems.length by omega]
      rw [hs] at hb
      cases hc : w.cells? 0 (a.add (i * esz)) esz with
      | none => rw [hc] at hb; simp at hb
      | some ci =>
       rw [hc] at hb
       simp only [Option.bind_some] at hb
       obtain ⟨_, hcl, hcell⟩ := World.cells?_some hc
       obtain ⟨pi, r, s, o⟩ := trod_rep d m e esz ci _ hoe hb (fun n hn => hwb n (by
        simp only [DataW.weights, F.und, h1]
        exact List.mem_cons_of_mem _ (List.mem_append.2 (.inl (mem_weightsAll (d := (elems[i]'(by omega)).1) (List.mem_map.2 ⟨elems[i]'(by omega), by simp, rfl⟩) n hn))))) hcl
       refine ⟨ci, pi, fun k u hk => ?_, hcl, r, s, o⟩
       have hkl : k < esz := by
        rcases Nat.lt_or_ge k ci.length with h' | h'
        ·omega
        ·simp [List.getElem?_eq_none h'] at hk
       rw [hcell k hkl, hk]
     obtain ⟨cis, pis, l1, l2, hall⟩ := pick_lists len hex
     have hget : ∀ i, i < len → ∃ ci pi, cis[i]? = some ci ∧ pis[i]? = some pi ∧ (∀ k u, ci[k]? = some u → w.cell? ((a.add (i * esz)).add k) = some u) ∧ ci.length = esz ∧ Reps (Zall w) w pi ci ∧ Shp E.tys d e pi ∧ AllOne ci := fun i hi => by
      have g1 : cis[i]? = some (cis[i]'(by omega)) := by simp [show i < cis.length by omega]
      have g2 : pis[i]? = some (pis[i]'(by omega)) := by simp [show i < pis.length by omega]
      exact ⟨_, _, g1, g2, hall i _ _ g1 g2⟩
     have hlt_of : ∀ {i : Nat} {α : Type} {l : List α} {y : α}, l[i]? = some y → i < l.length := fun {i α l y} h => by
      rcases Nat.lt_or_ge i l.length with h' | h'
      ·exact h'
      ·simp [List.getElem?_eq_none h'] at h
     have hvc : ∀ ci : List Value, ci.length = esz → AllOne ci → vcells (wrapT q.k.isAgg ci) = ci := by
      intro ci hl ho
      cases hag : q.k.isAgg with
      | true => simp [wrapT, vcells, Value.cells]
      | false =>
       have := hnagg hag
       match ci, hl with
       | [c], _ => simp only [wrapT, List.headD_cons]; exact vcells_one (ho c (by simp))
       | [], hl => simp at hl; omega
       | _ :: _ :: _, hl => simp at hl; omega
     have hrp : ∀ ci pi, ci.length = esz → AllOne ci → Reps (Zall w) w pi ci → Rep (Zall w) w (wrapP q.k.isAgg pi) (wrapT q.k.isAgg ci) := by
      intro ci pi hl ho hr
      cases hag : q.k.isAgg with
      | true => simp only [wrapP, wrapT, Rep]; exact ⟨ci, hr, rfl, ho⟩
      | false =>
       have := hnagg hag
       have hpl := hr.length
       match ci, pi, hl, hpl with
       | [c], [p], _, _ =>
        simp only [Reps] at hr
        obtain ⟨u, us, e1, e2, e3⟩ := hr
        simp only [List.cons.injEq] at e1
        simp only [wrapP, wrapT, List.headD_cons]
        rw [e1.1]; exact e2
       | [], _, hl, _ => simp at hl; omega
       | _ :: _ :: _, _, hl, _ => simp at hl; omega
       | [_], [], _, hpl => simp at hpl
       | [_], _ :: _ :: _, _, hpl => simp at hpl
     refine ⟨[.view esz (pis.map (wrapP q.k.isAgg))], ⟨_, [], rfl, ?_, rfl⟩, ⟨pis, by rw [hq], by rw [l2]; exact hlenb, fun c hc => ?_⟩, one _ rfl⟩
     ·simp only [Rep]
      refine ⟨cis.map (wrapT q.k.isAgg), some a, cap, reps_of_all (by simp [l1, l2]) fun i p v hp hv => ?_, by simp [l1], hpos, fun y hy => ?_, by simp [l1]; exact hlenb', ?_⟩
      ·rw [List.getElem?_map] at hp hv
       cases hpi : pis[i]? with
       | none => rw [hpi] at hp; simp at hp
       | some pi =>
        cases hci : cis[i]? with
        | none => rw [hci] at hv; simp at hv
        | some ci =>
         rw [hpi] at hp; rw [hci] at hv
         simp only [Option.map_some, Option.some.injEq] at hp hv
         subst hp; subst hv
         obtain ⟨_, g2, g3, _, g5⟩ := hall i ci pi hci hpi
         exact hrp ci pi g2 g5 g3
      ·obtain ⟨ci, hci, rfl⟩ := List.mem_map.1 hy
       obtain ⟨i, hi, rfl⟩ := List.mem_iff_getElem.1 hci
       obtain ⟨ci', pi, g1, _, _, g2, _, _, g5⟩ := hget i (by omega)
       have : cis[i] = ci' := by
        have := g1; simp [hi] at this; exact this
       rw [this]
       exact ⟨by rw [hvc _ g2 g5]; exact g2, by rw [hvc _ g2 g5]; exact g5⟩
      ·refine ⟨by simp [l1]; exact hlc, ?_⟩
       rcases Nat.eq_zero_or_pos len with h0 | h0
       ·left; simp [l1, h0]
       ·right
        obtain ⟨c0, p0, g1, g2, gc, g3, g4, _, g5⟩ := hget 0 h0
        obtain ⟨v0, hv0⟩ : ∃ v0, c0[0]? = some v0 := ⟨c0[0]'(by omega), by simp [show 0 < c0.length by omega]⟩
        have hcell := gc 0 v0 hv0
        have e0 : (a.add (0 * esz)).add 0 = a := by
         rw [Nat.zero_mul]; simp [Addr.add]
        rw [e0] at hcell
        have hspot := World.cell?_spot hcell
        have hblk : a.block < w.heap.size := by
         rcases Nat.lt_or_ge a.block w.heap.size with h' | h'
         ·exact h'
         ·simp [World.cell?, Array.getElem?_eq_none h'] at hcell
        refine ⟨hspot, hblk, fun k u hu => ?_⟩
        rw [List.getElem?_map] at hu
        cases hck : cis[k]? with
        | none => rw [hck] at hu; simp at hu
        | some ck =>
         rw [hck] at hu
         simp only [Option.map_some, Option.some.injEq] at hu
         subst hu
         obtain ⟨ck', pk, f1, f2, fc, f3, f4, _, f5⟩ := hget k (by have := hlt_of hck; omega)
         rw [hck] at f1
         simp only [Option.some.injEq] at f1
         subst f1
         rw [hvc _ f3 f5]
         intro q' u hq'
         have := fc q' u hq'
         obtain ⟨ab, ao, as⟩ := a
         simp only at hspot
         subst hspot
         rw [addr_add, addr_add] at this
         exact this
     ·obtain ⟨i, hi, rfl⟩ := List.mem_iff_getElem.1 hc
      obtain ⟨ci', pi, _, g1, _, _, _, g4, _⟩ := hget i (by omega)
      have : pis[i] = pi := by
       have := g1; simp [hi] at this; exact this
      rw [this]; exact g4
   | _ => rw [hk] at hok; simp at hok
def aggOf (tys : List (TypeId × TyI)) (T : TypeId) : Bool := match tfind tys T with
 | some i => i.k.isAgg
 | none => false
def sizeOf' (tys : List (TypeId × TyI)) (T : TypeId) : Nat := match tfind tys T with
 | some i => i.size
 | none => 0
def ShpA (tys : List (TypeId × TyI)) (d : Nat) : List TypeId → List PV → Prop
 | [], ps => ps = []
 | T :: ts, ps => ∃ c r, ps = wrapP (aggOf tys T) c :: r ∧ Shp tys d T c ∧ ShpA tys d ts r
def shOks (tys : List (TypeId × TyI)) (d : Nat) : List TypeId → Bool
 | [] => true
 | T :: ts => shOk tys d T (sizeOf' tys T) && shOks tys d ts
theorem one_rep {Z : Nat → Prop} {w : World} {agg : Bool} {ci : List Value} {pi : List PV} (hag : agg = false → ci.length = 1) (ho : AllOne ci) (hr : Reps Z w pi ci) : Rep Z w (wrapP agg pi) (wrapT agg ci) := by
 cases agg with
 | true => simp only [wrapP, wrapT, Rep]; exact ⟨ci, hr, rfl, ho⟩
 | false =>
  have hl := hag rfl
  have hpl := hr.length
  match ci, pi, hl, hpl with
  | [c], [p], _, _ =>
   simp only [Reps] at hr
   obtain ⟨u, us, e1, e2, e3⟩ := hr
   simp only [List.cons.injEq] at e1
   simp only [wrapP, wrapT, List.headD_cons]
   rw [e1.1]; exact e2
theorem arg_val {r : Reach} {base d sz : Nat} {T : TypeId} {v : Value} (hok : shOk E.tys d T sz = true) (hv : Value.okWide E.P w r base T v) : v = wrapT (aggOf E.tys T) v.cells.toList ∧ (aggOf E.tys T = false → v.cells.toList.length = 1) ∧ v.cells.toList.length = sz := by
 cases d with
 | zero => simp [shOk] at hok
 | succ d =>
  simp only [shOk] at hok
  cases hT : tfind E.tys T with
  | none => rw [hT] at hok; simp at hok
  | some i =>
   rw [hT] at hok
   simp only [Bool.and_eq_true] at hok
   obtain ⟨hsz, hok⟩ := hok
   have hsz := Nat.eq_of_beq_eq_true hsz
   obtain ⟨ds, inf, z, F⟩ := tyOf_some (E.ok _ _ hT)
   have hcs : E.P.cellsOf T = sz := by rw [cellsOf_of F.hi, ← F.size, hsz]
   simp only [aggOf, hT]
   unfold Value.okWide at hv
   rw [F.und] at hv
   have hk := F.k
   cases hik : i.k with
   | int k =>
    rw [hik] at hok
    have := Nat.eq_of_beq_eq_true hok
    rw [F.int hik] at hv
    simp only [Cell.okWide, F.und, F.int hik] at hv
    cases v <;> simp_all [Cell.ok, TK.isAgg, wrapT, Value.cells, F.und]
   | bool =>
    rw [hik] at hok
    have := Nat.eq_of_beq_eq_true hok
    rw [F.bool hik] at hv
    simp only [Cell.okWide, F.und, F.bool hik] at hv
    cases v <;> simp_all [Cell.ok, TK.isAgg, wrapT, Value.cells, F.und]
   | str =>
    rw [hik] at hok
    have := Nat.eq_of_beq_eq_true hok
    rw [F.str hik] at hv
    simp only [Cell.okWide, F.und, F.str hik] at hv
    cases v <;> simp_all [Cell.ok, TK.isAgg, wrapT, Value.cells, F.und]
   | slice e esz eb ez =>
    rw [hik] at hok
    simp only [Bool.and_eq_true] at hok
    have := Nat.eq_of_beq_eq_true hok.1.1.1
    obtain ⟨h1, _⟩ := F.slice hik
    rw [h1] at hv
    simp only [Cell.okWide, F.und, h1] at hv
    cases v <;> simp_all [Cell.ok, TK.isAgg, wrapT, Value.cells, F.und]
   | struct fs =>
    obtain ⟨l, h1, _⟩ := F.struct hik
    rw [h1] at hv
    obtain ⟨cs, rfl, hl, _⟩ := hv
    simp only [TK.isAgg, wrapT, Value.cells, Array.toArray_toList]
    exact ⟨trivial, by simp, by simpa [hcs] using hl⟩
   | arr n e esz ea =>
    obtain ⟨h1, _⟩ := F.arr hik
    rw [h1] at hv
    obtain ⟨cs, rfl, hl, _⟩ := hv
    simp only [TK.isAgg, wrapT, Value.cells, Array.toArray_toList]
    exact ⟨trivial, by simp, by simpa [hcs] using hl⟩
   | _ => rw [hik] at hok; simp at hok
theorem args_rep {r : Reach} {base d : Nat} {sp : Nat → Bool} : ∀ {ts : List TypeId} {vs : List Value} {ds : List (DataW H)} {p : List MemPlace}, shOks E.tys d ts = true → DataW.TrodAll enc E.P w 0 sp true ts vs ds p →
  (∀ (j : Nat) t v, ts[j]? = some t → vs[j]? = some v → Value.okWide E.P w r base t v) → (∀ n, n ∈ DataW.weightsEach E.P ts ds → n ≤ reachBytes) → ∃ ps, Reps (Zall w) w ps vs ∧ ShpA E.tys d ts ps
 | [], vs, ds, p, _, h, _, _ => by
  obtain ⟨rfl, rfl, rfl⟩ := trodAll_nil h
  exact ⟨[], rfl, rfl⟩
 | T :: ts, vs, ds, p, hok, h, hv, hw => by
  obtain ⟨v, vs', x, ds', a, b, rfl, rfl, rfl, ⟨fuel, hf⟩, h2⟩ := trodAll_cons h
  simp only [shOks, Bool.and_eq_true] at hok
  obtain ⟨e1, e2, e3⟩ := arg_val hok.1 (hv 0 T v rfl rfl)
  obtain ⟨c, r1, s1, o1⟩ := trod_rep (enc := enc) (w := w) (sp := sp) d fuel T _ v.cells.toList _ hok.1 hf (fun n hn => hw n (by simp only [DataW.weightsEach]; exact List.mem_append.2 (.inl hn))) e3
  obtain ⟨ps, r2, s2⟩ := args_rep hok.2 h2 (fun j t v' g1 g2 => hv (j + 1) t v' (by simpa using g1) (by simpa using g2)) (fun n hn => hw n (by simp only [DataW.weightsEach]; exact List.mem_append.2 (.inr hn)))
  refine ⟨wrapP (aggOf E.tys T) c :: ps, ?_, c, ps, rfl, s1, s2⟩
  simp only [Reps]
  refine ⟨v, vs', rfl, ?_, r2⟩
  rw [e1]
  exact one_rep e2 o1 r1
theorem args_stay {ts : List TypeId} {vs : List Value} {ds : List (DataW H)} {p : List MemPlace} {P : Program} (hl : laidOutB P = true) (hr : ∀ t, t ∈ ts → P.readableRec t = true ∧ t < P.types.size) {W W' : World} {sp : Nat → Bool}
  (h : DataW.TrodAll enc P W 0 (fun _ => true) true ts vs ds p) (hb : Below W.heap.size W W') (hlt : ∀ x ∈ p, x.block < W.heap.size) (hs : ∀ x ∈ p, sp x.block = true) : DataW.TrodAll enc P W' 0 sp true ts vs ds p := by
 induction ts generalizing vs ds p with
 | nil =>
  obtain ⟨rfl, rfl, rfl⟩ := trodAll_nil h
  exact trodAll_mk0
 | cons T ts ih =>
  obtain ⟨v, vs', x, ds', a, b, rfl, rfl, rfl, h1, h2⟩ := trodAll_cons h
  refine trodAll_cons_mk ?_ (ih (fun t ht => hr t (List.mem_cons_of_mem _ ht)) h2 (fun x hx => hlt x (List.mem_append.2 (.inr hx))) (fun x hx => hs x (List.mem_append.2 (.inr hx))))
  obtain ⟨g1, g2⟩ := hr T List.mem_cons_self
  exact WideElems.Trod_stays hl g1 g2 h1 (fun x hx => hb.same (hlt x (List.mem_append.2 (.inl hx)))) (fun x hx => hs x (List.mem_append.2 (.inl hx)))
end
theorem law_calls {H : Type} {enc : TypeId × Value → H} {E : Env} {f : FuncId} {ts : List TypeId} {d : Nat} (hlaw : ∀ ps, ShpA E.tys d ts ps → PCalls E.P f ps (.v (.bool true))) (hok : shOks E.tys d ts = true) {r : Reach} {base : Nat} {W : World} {args : Array Value} {ds : List (DataW H)} {p : List MemPlace}
  (hA : DataW.TrodAll enc E.P W 0 (fun _ => true) true ts args.toList ds p) (hv : ∀ (j : Nat) t v, ts[j]? = some t → args[j]? = some v → Value.okWide E.P W r base t v) (hw : ∀ n, n ∈ DataW.weightsEach E.P ts ds → n ≤ reachBytes) (hG : Glob.G (Zall W) W) :
  Calls E.P f args W fun e W' => e = .returned (.bool true) ∧ Below W.heap.size W W' := by
 obtain ⟨ps, hr, hs⟩ := args_rep hok hA (fun j t v h1 h2 => hv j t v h1 (by simpa using h2)) hw
 have := (hlaw ps hs).calls (Zall W) W args.toList ⟨fun b hb => hb, hG⟩ hr
 rw [Array.toArray_toList] at this
 refine this.mono ?_
 rintro e W' ⟨u, Z', rfl, st, hz, hu⟩
 simp only [Rep] at hu
 exact ⟨by rw [hu.1], st.os, st.tape, st.output.out, st.size, fun k hk => st.keep k hk⟩
theorem shp_list {β : Type} {f : β → PV} {Q : β → Prop} {agg : Bool} : ∀ {es : List (List PV)}, (∀ c, c ∈ es → ∃ b, wrapP agg c = f b ∧ Q b) → ∃ l : List β, es.map (wrapP agg) = l.map f ∧ l.length = es.length ∧ ∀ b, b ∈ l → Q b
 | [], _ => ⟨[], rfl, rfl, fun b h => by simp at h⟩
 | c :: es, h => by
  obtain ⟨b, h1, h2⟩ := h c List.mem_cons_self
  obtain ⟨l, h3, h4, h5⟩ := shp_list (fun c hc => h c (List.mem_cons_of_mem _ hc))
  exact ⟨b :: l, by simp [h1, h3], by simp [h4], fun x hx => by
   rcases List.mem_cons.1 hx with rfl | hx
   ·exact h2
   ·exact h5 x hx⟩
theorem rng_u8 {n : Int} (h : IntKind.u8.min ≤ n ∧ n ≤ IntKind.u8.max) : 0 ≤ n ∧ n ≤ 255 := by simpa [IntKind.min, IntKind.max, IntKind.signed, IntKind.bits] using h
theorem rng_u64 {n : Int} (h : IntKind.u64.min ≤ n ∧ n ≤ IntKind.u64.max) : 0 ≤ n ∧ n ≤ 18446744073709551615 := by simpa [IntKind.min, IntKind.max, IntKind.signed, IntKind.bits] using h
attribute [go_sem] List.take_of_length_le Int.add_sub_cancel Nat.add_sub_cancel Int.fdiv_eq_ediv_of_nonneg Nat.min_eq_left wrap_i64 Int.natCast_add Int.cast_ofNat_Int Int.natCast_one
end Go.Ab
namespace Go.Ab
open Go.RowKit
variable [Glob]
@[go_sem] theorem i64_max : IntKind.i64.max = 9223372036854775807 := rfl
attribute [go_sem] List.size_toArray
end Go.Ab
namespace Go
end Go
