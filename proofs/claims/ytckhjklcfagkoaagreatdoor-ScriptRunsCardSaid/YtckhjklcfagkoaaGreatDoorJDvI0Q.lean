/- Contracts of functions of this program, and the plain facts that they rest on. No conditions. -/
import Derived.Test.YtckhjklcfagkoaaGreatDoorJDvF0Q
import Derived.Test.YtckhjklcfagkoaaGreatDoorDvG1Q
import Derived.Test.YtckhjklcfagkoaaGreatDoorJStCQ
import Derived.Test.YtckhjklcfagkoaaGreatDoorJDvGQ
set_option linter.unusedSimpArgs false
set_option linter.unusedVariables false
namespace Go.Proofs.YtckhjklcfagkoaaGreatDoor
open Go Go.Ab
attribute [local irreducible] callK callF loopQ vstep vskip pickE hideP
set_option maxRecDepth 100000
@[go_sem high] theorem nthM {a0 a1 a2 a3 a4 a5 a6 a7 a8 a9 a10 a11 a12 a13 a14 a15 a16 a17 : Option Ob} {N : Nat → Value → Option Int} {k : Nat} {l : List (Option Ob)} (hk : k < 8) : nth (a0 :: a1 :: a2 :: a3 :: a4 :: a5 :: a6 :: a7 :: a8 :: a9 :: a10 :: a11 :: a12 :: a13 :: a14 :: a15 :: a16 :: a17 :: some (.mp (some .i64) (.i .u64 (N 0))) :: some (.mp (some .i64) (.i .u64 (N 1))) :: some (.mp (some .i64) (.i .u64 (N 2))) :: some (.mp (some .i64) (.i .u64 (N 3))) :: some (.mp (some .i64) (.i .u64 (N 4))) :: some (.mp (some .i64) (.i .u64 (N 5))) :: some (.mp (some .i64) (.i .u64 (N 6))) :: some (.mp (some .i64) (.i .u64 (N 7))) :: l) (18 + k) = some (some (.mp (some .i64) (.i .u64 (N k)))) := by
 rcases lt8 hk with rfl | rfl | rfl | rfl | rfl | rfl | rfl | rfl <;> rfl
@[go_sem high] theorem setM {a0 a1 a2 a3 a4 a5 a6 a7 a8 a9 a10 a11 a12 a13 a14 a15 a16 a17 : Option Ob} {N : Nat → Value → Option Int} {k : Nat} {f : Value → Option Int} {l : List (Option Ob)} (hk : k < 8) : setL (a0 :: a1 :: a2 :: a3 :: a4 :: a5 :: a6 :: a7 :: a8 :: a9 :: a10 :: a11 :: a12 :: a13 :: a14 :: a15 :: a16 :: a17 :: some (.mp (some .i64) (.i .u64 (N 0))) :: some (.mp (some .i64) (.i .u64 (N 1))) :: some (.mp (some .i64) (.i .u64 (N 2))) :: some (.mp (some .i64) (.i .u64 (N 3))) :: some (.mp (some .i64) (.i .u64 (N 4))) :: some (.mp (some .i64) (.i .u64 (N 5))) :: some (.mp (some .i64) (.i .u64 (N 6))) :: some (.mp (some .i64) (.i .u64 (N 7))) :: l) (18 + k) (some (.mp (some .i64) (.i .u64 f))) = a0 :: a1 :: a2 :: a3 :: a4 :: a5 :: a6 :: a7 :: a8 :: a9 :: a10 :: a11 :: a12 :: a13 :: a14 :: a15 :: a16 :: a17 :: some (.mp (some .i64) (.i .u64 (upd N k f 0))) :: some (.mp (some .i64) (.i .u64 (upd N k f 1))) :: some (.mp (some .i64) (.i .u64 (upd N k f 2))) :: some (.mp (some .i64) (.i .u64 (upd N k f 3))) :: some (.mp (some .i64) (.i .u64 (upd N k f 4))) :: some (.mp (some .i64) (.i .u64 (upd N k f 5))) :: some (.mp (some .i64) (.i .u64 (upd N k f 6))) :: some (.mp (some .i64) (.i .u64 (upd N k f 7))) :: l := by
 rcases lt8 hk with rfl | rfl | rfl | rfl | rfl | rfl | rfl | rfl <;> rfl
@[go_sem high] theorem nthL0 {A : Dv} {J : JT} {r : Nat} (hr : r < 6) : nth [AV.p (.v (.int .u64 (A.done 0))), .sl 12 2 (jk A J 0).length (A.hist 0).length, .p (.v (.int .u64 (A.done 1))), .sl 13 2 (jk A J 1).length (A.hist 1).length, .p (.v (.int .u64 (A.done 2))), .sl 14 2 (jk A J 2).length (A.hist 2).length, .p (.v (.int .u64 (A.done 3))), .sl 15 2 (jk A J 3).length (A.hist 3).length, .p (.v (.int .u64 (A.done 4))), .sl 16 2 (jk A J 4).length (A.hist 4).length, .p (.v (.int .u64 (A.done 5))), .sl 17 2 (jk A J 5).length (A.hist 5).length] (r * 2) = some (.p (.v (.int .u64 (A.done r)))) := by
 rcases lt6 hr with rfl | rfl | rfl | rfl | rfl | rfl <;> rfl
@[go_sem ↓ high] theorem nthL1 {A : Dv} {J : JT} {r : Nat} (hr : r < 6) : nth [AV.p (.v (.int .u64 (A.done 0))), .sl 12 2 (jk A J 0).length (A.hist 0).length, .p (.v (.int .u64 (A.done 1))), .sl 13 2 (jk A J 1).length (A.hist 1).length, .p (.v (.int .u64 (A.done 2))), .sl 14 2 (jk A J 2).length (A.hist 2).length, .p (.v (.int .u64 (A.done 3))), .sl 15 2 (jk A J 3).length (A.hist 3).length, .p (.v (.int .u64 (A.done 4))), .sl 16 2 (jk A J 4).length (A.hist 4).length, .p (.v (.int .u64 (A.done 5))), .sl 17 2 (jk A J 5).length (A.hist 5).length] (r * 2 + 1) = some (.sl (12 + r) 2 (jk A J r).length (A.hist r).length) := by
 rcases lt6 hr with rfl | rfl | rfl | rfl | rfl | rfl <;> rfl
noncomputable def Dv.noted (A : Dv) (k r : Nat) : Dv := { A with note := upd A.note k (updF (A.note k) (.int .i64 r) (some (A.done r + (A.hist r).length))) }
def Dv.isB (A : Dv) (o : Int) : Bool := decide (o < ((64 * A.n : Nat) : Int))
noncomputable def Dv.flush (A : Dv) (k : Nat) (o : Int) : Dv := if A.cntB (A.isB o) = true then (A.cnt k (A.isB o)).noted k (o / 64).toNat else A.cnt k (A.isB o)
end Go.Proofs.YtckhjklcfagkoaaGreatDoor
namespace Go.Proofs.YtckhjklcfagkoaaGreatDoor
open Go Go.Ab
attribute [local irreducible] callK callF loopQ vstep vskip pickE hideP
set_option maxRecDepth 100000
@[go_sem high] theorem nthL27 {A : Dv} {J : JT} {r : Nat} (hr : r < 6) : nth [AV.p (.v (.int .u64 (A.done 0))), .sl 27 2 (jk A J 0).length (A.hist 0).length, AV.p (.v (.int .u64 (A.done 1))), .sl 28 2 (jk A J 1).length (A.hist 1).length, AV.p (.v (.int .u64 (A.done 2))), .sl 29 2 (jk A J 2).length (A.hist 2).length, AV.p (.v (.int .u64 (A.done 3))), .sl 30 2 (jk A J 3).length (A.hist 3).length, AV.p (.v (.int .u64 (A.done 4))), .sl 31 2 (jk A J 4).length (A.hist 4).length, AV.p (.v (.int .u64 (A.done 5))), .sl 32 2 (jk A J 5).length (A.hist 5).length] (r * 2) = some (.p (.v (.int .u64 (A.done r)))) := by
 rcases lt6 hr with rfl | rfl | rfl | rfl | rfl | rfl <;> rfl
theorem left_lt {es : Array MapEntry} {seen : Array Nat} {e : MapEntry} (he : e ∈ (leftOf es seen).toList) : (leftOf es (seen.push e.born)).size < (leftOf es seen).size := by
 obtain ⟨h1, h2⟩ := left_mem he
 have := filt_lt (fun x : MapEntry => !seen.contains x.born) (fun x => !(seen.push e.born).contains x.born) es.toList (fun x _ hx => by
  simp at hx ⊢
  exact hx.1) e h1 (by simpa using h2) (by simp)
 have e2 : ∀ s : Array Nat, (leftOf es s).size = (es.toList.filter fun x => !s.contains x.born).length := fun s => by
  rw [← Array.toList_filter, Array.length_toList]; rfl
 rw [e2, e2]; exact this
open Classical in
theorem fencS_eq {B : Dv} {k : Nat} {S S' : Nat → Prop} (h : ∀ r, (if S r then kF B k r else 0) = if S' r then kF B k r else 0) : fencS B k S = fencS B k S' := by
 refine Dv.ext' rfl ?_ rfl ?_ ?_ rfl rfl rfl rfl rfl rfl
 ·rw [fencS_per, fencS_per, show (fun r => if S r then kF B k r else 0) = fun r => if S' r then kF B k r else 0 from funext h]
 ·funext r
  have e : ∀ T : Nat → Prop, (fencS B k T).hist r = (B.hist r).drop (if T r then kF B k r else 0) := fun T => by
   show (if T r then (B.hist r).drop (kF B k r) else B.hist r) = _
   split <;> simp
  rw [e, e, h r]
 ·funext r
  have e : ∀ T : Nat → Prop, (fencS B k T).done r = B.done r + ((if T r then kF B k r else 0 : Nat) : Int) := fun T => by
   show (if T r then B.done r + kF B k r else B.done r) = _
   split <;> simp
  rw [e, e, h r]
theorem entry_is {B : Dv} {k : Nat} (hn : NoteOk B k) {es : Array MapEntry} {cl : Nat} (hm : MapIs (some .i64) (.i .u64 (B.note k)) es cl) {e : MapEntry} (he : e ∈ es.toList) :
  ∃ (r : Nat) (v : Int), r < B.n ∧ e.key = .int .i64 r ∧ B.note k (.int .i64 r) = some v ∧ e.val = .int .u64 v ∧ 0 ≤ v ∧ v ≤ B.done r + (B.hist r).length := by
 have h1 := hm.has e he
 simp only [EK.has] at h1
 obtain ⟨v, hv⟩ := Option.isSome_iff_exists.1 h1
 obtain ⟨r, h2, h3, h4, h5⟩ := hn _ _ hv
 refine ⟨r, v, h2, h3, by rw [← h3]; exact hv, ?_, h4, h5⟩
 rw [hm.val e he]
 simp only [EK.get, hv, Option.getD_some]
theorem fencS_all {B : Dv} {k : Nat} {es : Array MapEntry} {cl : Nat} (hd : ∀ r, r < 6 → 0 ≤ B.done r) (hn6 : B.n ≤ 6) (hn : NoteOk B k) (hm : MapIs (some .i64) (.i .u64 (B.note k)) es cl) {seen : Array Nat} (h0 : (leftOf es seen).size = 0) : fencS B k (Saw es seen) = fencS B k (fun _ => True) := by
 refine fencS_eq fun r => ?_
 rw [if_pos trivial]
 split
 ·rfl
 ·rename_i hs
  unfold kF
  split
  ·rename_i p hp
   by_cases hex : ∃ e, e ∈ es.toList ∧ e.key = .int .i64 r
   ·obtain ⟨e, he, hk⟩ := hex
    refine absurd ⟨e, he, hk, ?_⟩ hs
    have hnl : e ∉ (leftOf es seen).toList := by
     have : (leftOf es seen).toList = [] := List.length_eq_zero_iff.1 (by rw [Array.length_toList]; exact h0)
     rw [this]; simp
    simp only [leftOf, Array.toList_filter, List.mem_filter, not_and] at hnl
    simpa using hnl he
   ·have ho := hm.out (.int .i64 r) (by simp [keyD, MapKept.IsKey]) (fun e he hk => hex ⟨e, he, hk⟩)
    simp only [EK.get, EK.zero, hp, Option.getD_some, Value.int.injEq, true_and] at ho
    obtain ⟨r', h1, h2, _, _⟩ := hn _ _ hp
    simp only [Value.int.injEq, true_and] at h2
    have := hd r (by omega)
    omega
  ·rfl
noncomputable def Dv.fence (A : Dv) (k : Nat) : Dv := if A.cntB true = true then { fencS (A.cnt k true) k (fun _ => True) with note := upd (A.cnt k true).note k (fun _ => none) } else A.cnt k true
theorem NoteOk.cnt {A : Dv} {q : Nat} (h : NoteOk A q) (k : Nat) (v : Bool) : NoteOk (A.cnt k v) q := by
 obtain ⟨e1, e2, e3, e4, e5, e6⟩ := cnt_p A k v
 unfold NoteOk
 rw [e1, e4, e5, e6]
 exact h
def JOk (A : Dv) (J : JT) : Prop := ∀ r, r < 6 → ((jk A J r).length : Int) ≤ A.done r
theorem JOk.persist {A : Dv} {J : JT} (h : JOk A J) (h0 : ∀ r, r < 6 → 0 ≤ A.done r) (q k : Nat) (hk : k ≤ (A.hist q).length) : JOk (A.persist q k) (jper A J q k) := by
 intro r hr
 have h1 := h r hr
 have h2 := h0 r hr
 rw [per_done]
 by_cases e : k < (A.hist q).length
 ·rw [jk_per A J q k r e]
  by_cases hq : r = q
  ·subst hq; simp only [if_true, List.length_append, List.length_take]; omega
  ·simp only [if_neg hq]; exact h1
 ·rw [jk_perA A J q k r (by omega)]
  by_cases hq : r = q
  ·subst hq; simp only [if_true, List.length_nil]; omega
  ·simp only [if_neg hq]; exact h1
end Go.Proofs.YtckhjklcfagkoaaGreatDoor
namespace Go.Proofs.YtckhjklcfagkoaaGreatDoor
set_option maxHeartbeats 4000000
set_option maxRecDepth 100000
open Go Go.Ab
attribute [local irreducible] callK callF loopQ vstep vskip pickE hideP
attribute [local go_sem] eU deO peO cuO liO thO hiO noO
def byW (ws : List Int) (j : Nat) : Int := IntKind.u8.wrap (ws.getD (j / 8) 0 / 2 ^ (j % 8 * 8))
def byL (ws : List Int) (m i : Nat) : List PV := (List.range m).map fun j => .v (.int .u8 (if j < i then byW ws j else 0))
theorem byL_0 (ws : List Int) (m : Nat) : List.replicate m (PV.v (.int .u8 0)) = byL ws m 0 := by
 unfold byL
 apply List.ext_getElem (by simp)
 intro i h1 h2
 simp
theorem byL_len (ws : List Int) (m i : Nat) : (byL ws m i).length = m := by simp [byL]
theorem byL_s (ws : List Int) (m i : Nat) : (byL ws m i).set i (.v (.int .u8 (byW ws i))) = byL ws m (i + 1) := by
 unfold byL
 apply List.ext_getElem (by simp)
 intro j h1 h2
 rw [List.getElem_set]
 simp only [List.getElem_map, List.getElem_range]
 by_cases e : i = j
 ·subst e; rw [if_pos rfl, if_pos (by omega)]
 ·rw [if_neg e]
  by_cases h : j < i
  ·rw [if_pos h, if_pos (by omega)]
  ·rw [if_neg h, if_neg (by omega)]
theorem dBytes (ws : List Int) (hw : ws.length ≤ 100000) : ACalls Tryz.prog 66 [.sl 0 1 0 ws.length] [.arr 1 (ws.map eU)] (.sl 1 1 0 (8 * ws.length)) [.arr 1 (ws.map eU), .arr 1 (byL ws (8 * ws.length) (8 * ws.length))] := by
 refine yA (E := E) (fn := Tryz.f66) 30 [.tmp 2] rfl rfl rfl rfl (by decide) rfl rfl ?_
 have hq : IntKind.i64.wrap ((ws.length : Int) * 8) = ((8 * ws.length : Nat) : Int) := by rw [IntKind.wrap_i64]; omega
 repeat' (first
  | (with_reducible first | apply zY | apply zT | apply zM | apply zN | apply zO | refine chk_ok (by kernel_rfl) ?_)
  | ((with_reducible first | apply zP | apply zQ | apply zR | apply zL) <;> intro h)
  | ((with_reducible show False); omega)
  | ((first | (with_reducible first | apply zW | apply zV | apply zU | apply zS | apply zX | show VX _ _ _ _ _ _ _ | show vstep _ _ _ _ _ | show vskip _ _ _ | show withV _ _) | ((with_reducible show endA _ _ _ _ _ _ _); simp -implicitDefEqProofs only [endA]) | (with_reducible first | refine zB default (by first | omega | (simp only [LN, hq]; omega)) (by first | omega | (simp only [LN, hq]; omega)) ?_ | refine zC default (by first | omega | (simp only [LN, hq]; omega)) ?_ | refine And.intro (by first | decide | omega | assumption | (simp only [LN, hq]; omega)) ?_) | ((with_reducible show pickE _ _ _); first | refine zA _ ⟨by omega, by rfl⟩ ?_ | refine zA _ (by rfl) ?_) | fail); try simp -dsimp -implicitDefEqProofs (maxSteps := 1000000) (disch := first | omega | (simp only [LN, hq]; omega)) only [go_sem, hq])
  | fail)
 refine r_loopA (α := Nat) [0, 3, 10] (fun i b => [(11, aI i)]) (fun i b => [(3, .arr 1 (byL ws (8 * ws.length) i))]) (fun i => []) (fun i => i ≤ 8 * ws.length) (fun i => 8 * ws.length - i) (0) ?h0_1 ?hs0_1 ?I_1 ?hI_1 ?round_1
 case hI_1 => intro x; (simp -dsimp -implicitDefEqProofs (maxSteps := 1000000) (disch := first | omega | (simp only [LN]; omega)) only [go_sem]) <;> exact rfl
 case hs0_1 => refine wk_auto ?_; (simp -dsimp -implicitDefEqProofs (maxSteps := 1000000) (disch := first | omega | (simp only [LN, byL_0 ws]; omega)) only [go_sem, byL_0 ws]) <;> (try omega)
 case h0_1 => exact Nat.zero_le _
 case round_1 =>
  intro i h1
  by_cases hi : i < 8 * ws.length
  ·have e1 : IntKind.i64.wrap ((i : Int).tdiv 8) = ((i / 8 : Nat) : Int) := by rw [show ((i : Int).tdiv 8) = ((i / 8 : Nat) : Int) from rfl, IntKind.wrap_i64]; omega
   have e2 : (i : Int).tmod 8 = ((i % 8 : Nat) : Int) := rfl
   have e3 : IntKind.i64.wrap (((i % 8 : Nat) : Int) * 8) = ((i % 8 * 8 : Nat) : Int) := by rw [IntKind.wrap_i64]; omega
   have e4 : ((i : Int) / 8).toNat = i / 8 := by omega
   have e5 : (IntKind.u64.wrap ((i % 8 * 8 : Nat) : Int)).toNat = i % 8 * 8 := by rw [IntKind.wrap_u64]; omega
   have e6 : min (i % 8 * 8) 64 = i % 8 * 8 := by omega
   have hs := byL_s ws (8 * ws.length) i
   have hl := byL_len ws (8 * ws.length) i
   unfold byW at hs
   change (byL ws (8 * ws.length) i).set i (.v (.int .u8 (IntKind.u8.wrap (ws.getD (i / 8) default / 2 ^ (i % 8 * 8))))) = _ at hs
   repeat' (first
    | (with_reducible first | apply zY | apply zT | apply zM | apply zN | apply zO | refine chk_ok (by kernel_rfl) ?_)
    | ((with_reducible first | apply zP | apply zQ | apply zR | apply zL) <;> intro h <;> try (exfalso; first | omega | exact h rfl | (revert h; decide) | (cases h; done)))
    | ((with_reducible show False); omega)
    | ((first | (with_reducible first | apply zW | apply zV | apply zU | apply zS | apply zX | show VX _ _ _ _ _ _ _ | show vstep _ _ _ _ _ | show vskip _ _ _ | show withV _ _) | ((with_reducible show endA _ _ _ _ _ _ _); simp -implicitDefEqProofs only [endA]) | (with_reducible first | refine zB default (by first | omega | (simp only [LN, e1, e2, e3, e4, e5, e6, hl]; omega)) (by first | omega | (simp only [LN, e1, e2, e3, e4, e5, e6, hl]; omega)) ?_ | refine zC default (by first | omega | (simp only [LN, e1, e2, e3, e4, e5, e6, hl]; omega)) ?_ | refine And.intro (by first | decide | omega | assumption | (simp only [LN, e1, e2, e3, e4, e5, e6, hl]; omega)) ?_) | ((with_reducible show pickE _ _ _); first | refine zA _ ⟨by omega, by rfl⟩ ?_ | refine zA _ (by rfl) ?_) | fail); try simp -dsimp -implicitDefEqProofs (maxSteps := 1000000) (disch := first | omega | (simp only [LN, e1, e2, e3, e4, e5, e6, hl]; omega)) only [go_sem, e1, e2, e3, e4, e5, e6, hl])
    | fail)
   all_goals first | omega | (refine zZ (i + 1) ?_ ?_ ?_; (omega); (show _ < _; omega); (simp -dsimp -implicitDefEqProofs (maxSteps := 1000000) (disch := first | omega | (simp only [LN, e4, e5, e6, hs]; omega)) only [go_sem, e4, e5, e6, hs]; try trivial))
  ·obtain rfl : i = 8 * ws.length := by omega
   repeat' (first
    | (with_reducible first | apply zY | apply zT | apply zM | apply zN | apply zO | refine chk_ok (by kernel_rfl) ?_)
    | ((with_reducible first | apply zP | apply zQ | apply zR | apply zL) <;> intro h <;> try (exfalso; first | omega | exact h rfl | (revert h; decide) | (cases h; done)))
    | ((with_reducible show False); omega)
    | ((first | (with_reducible first | apply zW | apply zV | apply zU | apply zS | apply zX | show VX _ _ _ _ _ _ _ | show vstep _ _ _ _ _ | show vskip _ _ _ | show withV _ _) | ((with_reducible show endA _ _ _ _ _ _ _); simp -implicitDefEqProofs only [endA]) | (with_reducible first | refine zB default (by first | omega | (simp only [LN, byL_len]; omega)) (by first | omega | (simp only [LN, byL_len]; omega)) ?_ | refine zC default (by first | omega | (simp only [LN, byL_len]; omega)) ?_ | refine And.intro (by first | decide | omega | assumption | (simp only [LN, byL_len]; omega)) ?_) | ((with_reducible show pickE _ _ _); first | refine zA _ ⟨by omega, by rfl⟩ ?_ | refine zA _ (by rfl) ?_) | fail); try simp -dsimp -implicitDefEqProofs (maxSteps := 1000000) (disch := first | omega | (simp only [LN, byL_len]; omega)) only [go_sem, byL_len])
    | fail)
   all_goals first | omega | rfl
theorem dPers6 (A : Dv) (J : JT) (h : WF A) : ACalls Tryz.prog 20 [.loc 0 0] (dvL A J) (.sl 26 1 0 (64 * A.n)) (dvL A J ++ [.arr 1 (byL A.per (64 * A.n) (64 * A.n))]) := by
 refine yA (E := E) (fn := Tryz.f20) 10 [.tmp 2] rfl rfl rfl rfl (by decide) rfl rfl ?_
 have h6 := h.n6
 have hp := h.per
 have k := dBytes A.per (by rw [h.per]; omega)
 rw [h.per, show 8 * (8 * A.n) = 64 * A.n by omega] at k
 repeat' (first
  | (with_reducible first | apply zY | apply zT | apply zM | apply zN | apply zO | refine chk_ok (by kernel_rfl) ?_)
  | ((with_reducible first | apply zP | apply zQ | apply zR | apply zL) <;> intro h)
  | ((with_reducible show False); omega)
  | ((first | (with_reducible first | apply zW | apply zV | apply zU | apply zS | apply zX | show VX _ _ _ _ _ _ _ | show vstep _ _ _ _ _ | show vskip _ _ _ | show withV _ _) | ((with_reducible show endA _ _ _ _ _ _ _); simp -implicitDefEqProofs only [endA]) | (with_reducible first | refine zB default (by first | omega | (simp only [LN]; omega)) (by first | omega | (simp only [LN]; omega)) ?_ | refine zC default (by first | omega | (simp only [LN]; omega)) ?_ | refine And.intro (by first | decide | omega | assumption | (simp only [LN]; omega)) ?_) | (with_reducible first | apply zG | apply zH | apply zI) | ((with_reducible apply zJ); (first | exact k | fail)) | ((with_reducible show pickE _ _ _); first | refine zA _ ⟨by omega, by rfl⟩ ?_ | refine zA _ (by rfl) ?_) | fail); try simp -dsimp -implicitDefEqProofs (maxSteps := 1000000) (disch := first | omega | (simp only [LN]; omega)) only [go_sem])
  | fail)
end Go.Proofs.YtckhjklcfagkoaaGreatDoor
