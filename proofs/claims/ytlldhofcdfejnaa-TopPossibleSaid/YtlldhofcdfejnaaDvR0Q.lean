/- Contracts of functions of this program, and the plain facts that they rest on. No conditions. -/
import Derived.Test.YtlldhofcdfejnaaDvQQ
import Derived.Test.YtlldhofcdfejnaaDvG1Q
import Derived.Test.YtlldhofcdfejnaaDvI0Q
set_option linter.unusedSimpArgs false
set_option linter.unusedVariables false
namespace Go.Proofs.Ytlldhofcdfejnaa
open Go Go.Ab
attribute [local irreducible] callK callF loopQ vstep vskip pickE hideP
set_option maxRecDepth 100000
@[go_sem high] theorem nthL27 {A : Dv} {J : Nat → List (Int × Int)} {r : Nat} (hr : r < 6) : nth [AV.p (.v (.int .u64 (A.done 0))), .sl 27 2 (jk A J 0).length (A.hist 0).length, AV.p (.v (.int .u64 (A.done 1))), .sl 28 2 (jk A J 1).length (A.hist 1).length, AV.p (.v (.int .u64 (A.done 2))), .sl 29 2 (jk A J 2).length (A.hist 2).length, AV.p (.v (.int .u64 (A.done 3))), .sl 30 2 (jk A J 3).length (A.hist 3).length, AV.p (.v (.int .u64 (A.done 4))), .sl 31 2 (jk A J 4).length (A.hist 4).length, AV.p (.v (.int .u64 (A.done 5))), .sl 32 2 (jk A J 5).length (A.hist 5).length] (r * 2) = some (.p (.v (.int .u64 (A.done r)))) := by
 rcases lt6 hr with rfl | rfl | rfl | rfl | rfl | rfl <;> rfl
theorem left_lt {es : Array MapEntry} {seen : Array Nat} {e : MapEntry} (he : e ∈ (leftOf es seen).toList) : (leftOf es (seen.push e.born)).size < (leftOf es seen).size := by
 obtain ⟨h1, h2⟩ := left_mem he
 have := filt_lt (fun x : MapEntry => !seen.contains x.born) (fun x => !(seen.push e.born).contains x.born) es.toList (fun x _ hx => by
  simp at hx ⊢
  exact hx.1) e h1 (by simpa using h2) (by simp)
 have e2 : ∀ s : Array Nat, (leftOf es s).size = (es.toList.filter fun x => !s.contains x.born).length := fun s => by
  rw [← Array.toList_filter, Array.length_toList]; rfl
 rw [e2, e2]; exact this
open Classical in
theorem fencS_eq {B : Dv} {k : Nat} {S S' : Nat → Prop} (h : ∀ r, (if S r then kF B k r else 0) = if S' r then kF B k r else 0) : fencS B k S = fencS B k S' := by
 refine Dv.ext' rfl ?_ rfl ?_ ?_ rfl rfl rfl rfl rfl rfl
 ·rw [fencS_per, fencS_per, show (fun r => if S r then kF B k r else 0) = fun r => if S' r then kF B k r else 0 from funext h]
 ·funext r
  have e : ∀ T : Nat → Prop, (fencS B k T).hist r = (B.hist r).drop (if T r then kF B k r else 0) := fun T => by
   show (if T r then (B.hist r).drop (kF B k r) else B.hist r) = _
   split <;> simp
  rw [e, e, h r]
 ·funext r
  have e : ∀ T : Nat → Prop, (fencS B k T).done r = B.done r + ((if T r then kF B k r else 0 : Nat) : Int) := fun T => by
   show (if T r then B.done r + kF B k r else B.done r) = _
   split <;> simp
  rw [e, e, h r]
theorem entry_is {B : Dv} {k : Nat} (hn : NoteOk B k) {es : Array MapEntry} {cl : Nat} (hm : MapIs (some .i64) (.i .u64 (B.note k)) es cl) {e : MapEntry} (he : e ∈ es.toList) :
  ∃ (r : Nat) (v : Int), r < B.n ∧ e.key = .int .i64 r ∧ B.note k (.int .i64 r) = some v ∧ e.val = .int .u64 v ∧ 0 ≤ v ∧ v ≤ B.done r + (B.hist r).length := by
 have h1 := hm.has e he
 simp only [EK.has] at h1
 obtain ⟨v, hv⟩ := Option.isSome_iff_exists.1 h1
 obtain ⟨r, h2, h3, h4, h5⟩ := hn _ _ hv
 refine ⟨r, v, h2, h3, by rw [← h3]; exact hv, ?_, h4, h5⟩
 rw [hm.val e he]
 simp only [EK.get, hv, Option.getD_some]
theorem fencS_all {B : Dv} {k : Nat} {es : Array MapEntry} {cl : Nat} (hd : ∀ r, r < 6 → 0 ≤ B.done r) (hn6 : B.n ≤ 6) (hn : NoteOk B k) (hm : MapIs (some .i64) (.i .u64 (B.note k)) es cl) {seen : Array Nat} (h0 : (leftOf es seen).size = 0) : fencS B k (Saw es seen) = fencS B k (fun _ => True) := by
 refine fencS_eq fun r => ?_
 rw [if_pos trivial]
 split
 ·rfl
 ·rename_i hs
  unfold kF
  split
  ·rename_i p hp
   by_cases hex : ∃ e, e ∈ es.toList ∧ e.key = .int .i64 r
   ·obtain ⟨e, he, hk⟩ := hex
    refine absurd ⟨e, he, hk, ?_⟩ hs
    have hnl : e ∉ (leftOf es seen).toList := by
     have : (leftOf es seen).toList = [] := List.length_eq_zero_iff.1 (by rw [Array.length_toList]; exact h0)
     rw [this]; simp
    simp only [leftOf, Array.toList_filter, List.mem_filter, not_and] at hnl
    simpa using hnl he
   ·have ho := hm.out (.int .i64 r) (by simp [keyD, MapKept.IsKey]) (fun e he hk => hex ⟨e, he, hk⟩)
    simp only [EK.get, EK.zero, hp, Option.getD_some, Value.int.injEq, true_and] at ho
    obtain ⟨r', h1, h2, _, _⟩ := hn _ _ hp
    simp only [Value.int.injEq, true_and] at h2
    have := hd r (by omega)
    omega
  ·rfl
noncomputable def Dv.fence (A : Dv) (k : Nat) : Dv := if A.cntB true = true then { fencS (A.cnt k true) k (fun _ => True) with note := upd (A.cnt k true).note k (fun _ => none) } else A.cnt k true
theorem NoteOk.cnt {A : Dv} {q : Nat} (h : NoteOk A q) (k : Nat) (v : Bool) : NoteOk (A.cnt k v) q := by
 obtain ⟨e1, e2, e3, e4, e5, e6⟩ := cnt_p A k v
 unfold NoteOk
 rw [e1, e4, e5, e6]
 exact h
def JOk (A : Dv) (J : Nat → List (Int × Int)) : Prop := ∀ r, r < 6 → ((jk A J r).length : Int) ≤ A.done r
theorem JOk.persist {A : Dv} {J : Nat → List (Int × Int)} (h : JOk A J) (h0 : ∀ r, r < 6 → 0 ≤ A.done r) (q k : Nat) (hk : k ≤ (A.hist q).length) : JOk (A.persist q k) (jper A J q k) := by
 intro r hr
 have h1 := h r hr
 have h2 := h0 r hr
 rw [per_done]
 by_cases e : k < (A.hist q).length
 ·rw [jk_per A J q k r e]
  by_cases hq : r = q
  ·subst hq; simp only [if_true, List.length_append, List.length_take]; omega
  ·simp only [if_neg hq]; exact h1
 ·rw [jk_perA A J q k r (by omega)]
  by_cases hq : r = q
  ·subst hq; simp only [if_true, List.length_nil]; omega
  ·simp only [if_neg hq]; exact h1
end Go.Proofs.Ytlldhofcdfejnaa