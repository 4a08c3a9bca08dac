/- Contracts of functions of this program, and the plain facts that they rest on. No conditions. -/
import Derived.Test.YtckhjklcfagkoaaGreatDoorJStCQ
import Derived.Test.YtckhjklcfagkoaaGreatDoorAc4
set_option linter.unusedSimpArgs false
set_option linter.unusedVariables false
namespace Go.Proofs.YtckhjklcfagkoaaGreatDoor
set_option maxHeartbeats 4000000
set_option maxRecDepth 100000
open Go Go.Ab
attribute [local irreducible] callK callF loopQ vstep vskip pickE hideP
attribute [local go_sem] deO peO cuO liO thO hiO noO
def Dv.persist (A : Dv) (r k : Nat) : Dv := { A with per := appL A.per ((A.hist r).take k), hist := upd A.hist r ((A.hist r).drop k), done := upd A.done r (A.done r + k) }
def jper (A : Dv) (J : JT) (r k : Nat) : JT := fun i => if i = r then jk A J r ++ (A.hist r).take k else J i
theorem jk_per (A : Dv) (J : JT) (r k i : Nat) (h : k < (A.hist r).length) : jk (A.persist r k) (jper A J r k) i = if i = r then jk A J r ++ (A.hist r).take k else jk A J i := by
 unfold jk Dv.persist upd jper
 by_cases hi : i = r
 ·subst hi
  simp only [if_true]
  cases hd : (A.hist i).drop k with
  | nil => have := congrArg List.length hd; simp at this; omega
  | cons x l => rfl
 ·simp only [if_neg hi]
theorem jk_perA (A : Dv) (J : JT) (r k i : Nat) (h : k = (A.hist r).length) : jk (A.persist r k) (jper A J r k) i = if i = r then [] else jk A J i := by
 unfold jk Dv.persist upd jper
 by_cases hi : i = r
 ·subst hi
  simp only [if_true]
  rw [show (A.hist i).drop k = [] from List.drop_of_length_le (by omega)]
 ·simp only [if_neg hi]
theorem per_p (A : Dv) (r k : Nat) : (A.persist r k).n = A.n ∧ (A.persist r k).per = appL A.per ((A.hist r).take k) ∧ (A.persist r k).cur = A.cur ∧ (A.persist r k).err = A.err ∧ (A.persist r k).note = A.note ∧ (A.persist r k).off = A.off ∧ (A.persist r k).armed = A.armed ∧ (A.persist r k).left = A.left ∧ (A.persist r k).ex = A.ex := ⟨rfl, rfl, rfl, rfl, rfl, rfl, rfl, rfl, rfl⟩
theorem per_hist (A : Dv) (r k i : Nat) : (A.persist r k).hist i = if i = r then (A.hist r).drop k else A.hist i := rfl
theorem per_done (A : Dv) (r k i : Nat) : (A.persist r k).done i = if i = r then A.done r + k else A.done i := rfl
def noX (es : Nat → Array MapEntry) (cl : Nat → Nat) (k : Nat) : Ob := .mpx (some .i64) (es k) (cl k)
attribute [local go_sem] noX
theorem dPersistX (A : Dv) (J : JT) (es : Nat → Array MapEntry) (cl : Nat → Nat) (h : WF A) (r k : Nat) (hr : r < A.n) (hk : k ≤ (A.hist r).length) (hj : (jk A J r).length ≤ 1000000000) : ACalls Tryz.prog 81 [.loc 0 0, .p (.v (.int .i64 r)), .p (.v (.int .i64 k))] [deO A 1 2 3 4, peO A, cuO A, liO A J 12, thO A 0 0 18, thO A 1 0 18, thO A 2 0 18, thO A 3 0 18, thO A 4 0 18, thO A 5 0 18, thO A 6 0 18, thO A 7 0 18, hiO A J 0, hiO A J 1, hiO A J 2, hiO A J 3, hiO A J 4, hiO A J 5, noX es cl 0, noX es cl 1, noX es cl 2, noX es cl 3, noX es cl 4, noX es cl 5, noX es cl 6, noX es cl 7] (.p (.tup [])) [deO (A.persist r k) 1 2 3 4, peO (A.persist r k), cuO (A.persist r k), liO (A.persist r k) (jper A J r k) 26, thO (A.persist r k) 0 0 18, thO (A.persist r k) 1 0 18, thO (A.persist r k) 2 0 18, thO (A.persist r k) 3 0 18, thO (A.persist r k) 4 0 18, thO (A.persist r k) 5 0 18, thO (A.persist r k) 6 0 18, thO (A.persist r k) 7 0 18, .dead, .dead, .dead, .dead, .dead, .dead, noX es cl 0, noX es cl 1, noX es cl 2, noX es cl 3, noX es cl 4, noX es cl 5, noX es cl 6, noX es cl 7, hiO (A.persist r k) (jper A J r k) 0, hiO (A.persist r k) (jper A J r k) 1, hiO (A.persist r k) (jper A J r k) 2, hiO (A.persist r k) (jper A J r k) 3, hiO (A.persist r k) (jper A J r k) 4, hiO (A.persist r k) (jper A J r k) 5] := by
 refine yA (E := E) (fn := Tryz.f81) 51 [] rfl rfl rfl rfl (by decide) rfl rfl ?_
 have h6 := h.n6
 have hp := h.per
 have hl := h.len r (by omega)
 have hh := h.hist r (by omega)
 have e1 : IntKind.u64.wrap (k : Int) = k := by rw [IntKind.wrap_u64]; omega
 have e2 : IntKind.u64.wrap (A.done r + k) = A.done r + k := by rw [IntKind.wrap_u64]; omega
 have ka := dApply A.per (jk A J r) (A.hist r) (8 * A.n) (jk A J r).length k hp rfl hk (by omega) (fun x hx => by have := hh x hx; omega)
 by_cases hkn : k = (A.hist r).length
 ·have jp := fun i => jk_perA A J r k i hkn
  have hd : (A.hist r).drop k = [] := List.drop_of_length_le (by omega)
  subst hkn
  have hs : r = 0 ∨ r = 1 ∨ r = 2 ∨ r = 3 ∨ r = 4 ∨ r = 5 := by omega
  rcases hs with rfl | rfl | rfl | rfl | rfl | rfl
  all_goals
   repeat' (first
    | (with_reducible first | apply zY | apply zT | apply zM | apply zN | apply zO | refine chk_ok (by kernel_rfl) ?_)
    | ((with_reducible first | apply zP | apply zQ | apply zR | apply zL) <;> intro h <;> try (exfalso; first | omega | exact h rfl | (revert h; decide) | (cases h; done)))
    | ((with_reducible show False); omega)
    | ((first | (with_reducible first | apply zW | apply zV | apply zU | apply zS | apply zX | show VX _ _ _ _ _ _ _ | show vstep _ _ _ _ _ | show vskip _ _ _ | show withV _ _) | ((with_reducible show endA _ _ _ _ _ _ _); simp -implicitDefEqProofs only [endA]) | (with_reducible first | refine zB default (by first | omega | (simp only [LN, e1, e2]; omega)) (by first | omega | (simp only [LN, e1, e2]; omega)) ?_ | refine zC default (by first | omega | (simp only [LN, e1, e2]; omega)) ?_ | refine And.intro (by first | decide | omega | assumption | (simp only [LN, e1, e2]; omega)) ?_) | (with_reducible first | apply zG | apply zH | apply zI) | ((with_reducible apply zJ); (first | exact ka | fail)) | ((with_reducible show pickE _ _ _); first | refine zA _ ⟨by omega, by rfl⟩ ?_ | refine zA _ (by rfl) ?_) | fail); try simp -dsimp -implicitDefEqProofs (maxSteps := 1000000) (disch := first | omega | (simp only [LN, e1, e2]; omega)) only [go_sem, e1, e2])
    | fail)
   refine And.intro (by split <;> (simp <;> omega)) ?_
   repeat' (first
    | (with_reducible first | apply zY | apply zT | apply zM | apply zN | apply zO | refine chk_ok (by kernel_rfl) ?_)
    | ((with_reducible first | apply zP | apply zQ | apply zR | apply zL) <;> intro h <;> try (exfalso; first | omega | exact h rfl | (revert h; decide) | (cases h; done)))
    | ((with_reducible show False); omega)
    | ((first | (with_reducible first | apply zW | apply zV | apply zU | apply zS | apply zX | show VX _ _ _ _ _ _ _ | show vstep _ _ _ _ _ | show vskip _ _ _ | show withV _ _) | ((with_reducible show endA _ _ _ _ _ _ _); simp -implicitDefEqProofs only [endA]) | (with_reducible first | refine zB default (by first | omega | (simp only [LN, e1, e2]; omega)) (by first | omega | (simp only [LN, e1, e2]; omega)) ?_ | refine zC default (by first | omega | (simp only [LN, e1, e2]; omega)) ?_ | refine And.intro (by first | decide | omega | assumption | (simp only [LN, e1, e2]; omega)) ?_) | (with_reducible first | apply zG | apply zH | apply zI) | ((with_reducible apply zJ); (first | exact ka | fail)) | ((with_reducible show pickE _ _ _); first | refine zA _ ⟨by omega, by rfl⟩ ?_ | refine zA _ (by rfl) ?_) | fail); try simp -dsimp -implicitDefEqProofs (maxSteps := 1000000) (disch := first | omega | (simp only [LN, e1, e2]; omega)) only [go_sem, e1, e2])
    | fail)
   all_goals first | omega | (simp [jp, per_hist, per_done, per_p]; done)
 ·have jp := fun i => jk_per A J r k i (by omega)
  have hs : r = 0 ∨ r = 1 ∨ r = 2 ∨ r = 3 ∨ r = 4 ∨ r = 5 := by omega
  rcases hs with rfl | rfl | rfl | rfl | rfl | rfl
  all_goals
   repeat' (first
    | (with_reducible first | apply zY | apply zT | apply zM | apply zN | apply zO | refine chk_ok (by kernel_rfl) ?_)
    | ((with_reducible first | apply zP | apply zQ | apply zR | apply zL) <;> intro h <;> try (exfalso; first | omega | exact h rfl | (revert h; decide) | (cases h; done)))
    | ((with_reducible show False); omega)
    | ((first | (with_reducible first | apply zW | apply zV | apply zU | apply zS | apply zX | show VX _ _ _ _ _ _ _ | show vstep _ _ _ _ _ | show vskip _ _ _ | show withV _ _) | ((with_reducible show endA _ _ _ _ _ _ _); simp -implicitDefEqProofs only [endA]) | (with_reducible first | refine zB default (by first | omega | (simp only [LN, e1, e2]; omega)) (by first | omega | (simp only [LN, e1, e2]; omega)) ?_ | refine zC default (by first | omega | (simp only [LN, e1, e2]; omega)) ?_ | refine And.intro (by first | decide | omega | assumption | (simp only [LN, e1, e2]; omega)) ?_) | (with_reducible first | apply zG | apply zH | apply zI) | ((with_reducible apply zJ); (first | exact ka | fail)) | ((with_reducible show pickE _ _ _); first | refine zA _ ⟨by omega, by rfl⟩ ?_ | refine zA _ (by rfl) ?_) | fail); try simp -dsimp -implicitDefEqProofs (maxSteps := 1000000) (disch := first | omega | (simp only [LN, e1, e2]; omega)) only [go_sem, e1, e2])
    | fail)
   refine And.intro (by split <;> (simp <;> omega)) ?_
   repeat' (first
    | (with_reducible first | apply zY | apply zT | apply zM | apply zN | apply zO | refine chk_ok (by kernel_rfl) ?_)
    | ((with_reducible first | apply zP | apply zQ | apply zR | apply zL) <;> intro h <;> try (exfalso; first | omega | exact h rfl | (revert h; decide) | (cases h; done)))
    | ((with_reducible show False); omega)
    | ((first | (with_reducible first | apply zW | apply zV | apply zU | apply zS | apply zX | show VX _ _ _ _ _ _ _ | show vstep _ _ _ _ _ | show vskip _ _ _ | show withV _ _) | ((with_reducible show endA _ _ _ _ _ _ _); simp -implicitDefEqProofs only [endA]) | (with_reducible first | refine zB default (by first | omega | (simp only [LN, e1, e2]; omega)) (by first | omega | (simp only [LN, e1, e2]; omega)) ?_ | refine zC default (by first | omega | (simp only [LN, e1, e2]; omega)) ?_ | refine And.intro (by first | decide | omega | assumption | (simp only [LN, e1, e2]; omega)) ?_) | (with_reducible first | apply zG | apply zH | apply zI) | ((with_reducible apply zJ); (first | exact ka | fail)) | ((with_reducible show pickE _ _ _); first | refine zA _ ⟨by omega, by rfl⟩ ?_ | refine zA _ (by rfl) ?_) | fail); try simp -dsimp -implicitDefEqProofs (maxSteps := 1000000) (disch := first | omega | (simp only [LN, e1, e2]; omega)) only [go_sem, e1, e2])
    | fail)
   all_goals first | omega | (simp [jp, per_hist, per_done, per_p, Nat.min_eq_left hk]; done)
end Go.Proofs.YtckhjklcfagkoaaGreatDoor
namespace Go.Proofs.YtckhjklcfagkoaaGreatDoor
set_option maxHeartbeats 4000000
set_option maxRecDepth 100000
open Go Go.Ab
attribute [local irreducible] callK callF loopQ vstep vskip pickE hideP
attribute [local go_sem] deO peO cuO liO thO hiO noO
theorem tOn (A : Dv) (J : JT) (k : Nat) (hk : k < 8) (v : Bool) : ACalls Tryz.prog 102 [.loc (4 + k) 0, .p (.v (.bool v))] (dvL A J) (.p (.v (.bool (!A.off && v)))) (dvL (A.onS k v) J) := by
 refine yA (E := E) (fn := Tryz.f102) 20 [.tmp 4] rfl rfl rfl rfl (by decide) rfl rfl ?_
 repeat' (first
  | (with_reducible first | apply zY | apply zT | apply zM | apply zN | apply zO | refine chk_ok (by kernel_rfl) ?_)
  | ((with_reducible first | apply zP | apply zQ | apply zR | apply zL) <;> intro h)
  | ((with_reducible show False); omega)
  | ((first | (with_reducible first | apply zW | apply zV | apply zU | apply zS | apply zX | show VX _ _ _ _ _ _ _ | show vstep _ _ _ _ _ | show vskip _ _ _ | show withV _ _) | ((with_reducible show endA _ _ _ _ _ _ _); simp -implicitDefEqProofs only [endA]) | (with_reducible first | refine zB default (by first | omega | (simp only [LN]; omega)) (by first | omega | (simp only [LN]; omega)) ?_ | refine zC default (by first | omega | (simp only [LN]; omega)) ?_ | refine And.intro (by first | decide | omega | assumption | (simp only [LN]; omega)) ?_) | (with_reducible first | apply zG | apply zH | apply zI) | ((with_reducible apply zJ); (first | exact tFail A J _ hk 2 | exact tFail A J _ hk 3 | fail)) | ((with_reducible show pickE _ _ _); first | refine zA _ ⟨by omega, by rfl⟩ ?_ | refine zA _ (by rfl) ?_) | fail); try simp -dsimp -implicitDefEqProofs (maxSteps := 1000000) (disch := first | omega | (simp only [LN]; omega)) only [go_sem])
  | fail)
 all_goals (simp [Dv.onS, *])
theorem onS_t {A : Dv} {k : Nat} {v : Bool} (h : (!A.off && v) = true) : A.onS k v = A := by
 simp at h
 simp [Dv.onS, h]
theorem tOn1 (A : Dv) (J : JT) (k : Nat) (hk : k < 8) (v : Bool) (h : (!A.off && v) = true) : ACalls Tryz.prog 102 [.loc (4 + k) 0, .p (.v (.bool v))] (dvL A J) (.p (.v (.bool true))) (dvL A J) := by
 have := tOn A J k hk v
 rw [h, onS_t h] at this; exact this
theorem tOn0 (A : Dv) (J : JT) (k : Nat) (hk : k < 8) (v : Bool) (h : (!A.off && v) = false) : ACalls Tryz.prog 102 [.loc (4 + k) 0, .p (.v (.bool v))] (dvL A J) (.p (.v (.bool false))) (dvL (A.onS k v) J) := by
 have := tOn A J k hk v
 rw [h] at this; exact this
theorem dLines6 (A : Dv) (J : JT) (hn : A.n ≤ 6) : ACalls Tryz.prog 52 [.loc 0 0] (dvL A J) (.p (.v (.int .i64 A.n))) (dvL A J) := by
 refine yA (E := E) (fn := Tryz.f52) 10 [.tmp 2] rfl rfl rfl rfl (by decide) rfl rfl ?_
 repeat' (first
  | (with_reducible first | apply zY | apply zT | apply zM | apply zN | apply zO | refine chk_ok (by kernel_rfl) ?_)
  | ((with_reducible first | apply zP | apply zQ | apply zR | apply zL) <;> intro h)
  | ((with_reducible show False); omega)
  | ((first | (with_reducible first | apply zW | apply zV | apply zU | apply zS | apply zX | show VX _ _ _ _ _ _ _ | show vstep _ _ _ _ _ | show vskip _ _ _ | show withV _ _) | ((with_reducible show endA _ _ _ _ _ _ _); simp -implicitDefEqProofs only [endA]) | (with_reducible first | refine zB default (by first | omega | (simp only [LN]; omega)) (by first | omega | (simp only [LN]; omega)) ?_ | refine zC default (by first | omega | (simp only [LN]; omega)) ?_ | refine And.intro (by first | decide | omega | assumption | (simp only [LN]; omega)) ?_) | ((with_reducible show pickE _ _ _); first | refine zA _ ⟨by omega, by rfl⟩ ?_ | refine zA _ (by rfl) ?_) | fail); try simp -dsimp -implicitDefEqProofs (maxSteps := 1000000) (disch := first | omega | (simp only [LN]; omega)) only [go_sem])
  | fail)
theorem dSize6 (A : Dv) (J : JT) (hn : A.n ≤ 6) : ACalls Tryz.prog 42 [.loc 0 0] (dvL A J) (.p (.v (.int .u64 ((64 * A.n : Nat) : Int)))) (dvL A J) := by
 refine yA (E := E) (fn := Tryz.f42) 7 [.tmp 2] rfl rfl rfl rfl (by decide) rfl rfl ?_
 have e1 : IntKind.u64.wrap (A.n : Int) = (A.n : Int) := by rw [IntKind.wrap_u64]; omega
 have e2 : IntKind.u64.wrap ((A.n : Int) * 64) = ((64 * A.n : Nat) : Int) := by rw [IntKind.wrap_u64]; omega
 repeat' (first
  | (with_reducible first | apply zY | apply zT | apply zM | apply zN | apply zO | refine chk_ok (by kernel_rfl) ?_)
  | ((with_reducible first | apply zP | apply zQ | apply zR | apply zL) <;> intro h)
  | ((with_reducible show False); omega)
  | ((first | (with_reducible first | apply zW | apply zV | apply zU | apply zS | apply zX | show VX _ _ _ _ _ _ _ | show vstep _ _ _ _ _ | show vskip _ _ _ | show withV _ _) | ((with_reducible show endA _ _ _ _ _ _ _); simp -implicitDefEqProofs only [endA]) | (with_reducible first | refine zB default (by first | omega | (simp only [LN, e1, e2]; omega)) (by first | omega | (simp only [LN, e1, e2]; omega)) ?_ | refine zC default (by first | omega | (simp only [LN, e1, e2]; omega)) ?_ | refine And.intro (by first | decide | omega | assumption | (simp only [LN, e1, e2]; omega)) ?_) | (with_reducible first | apply zG | apply zH | apply zI) | ((with_reducible apply zJ); (first | exact dLines6 A J hn | fail)) | ((with_reducible show pickE _ _ _); first | refine zA _ ⟨by omega, by rfl⟩ ?_ | refine zA _ (by rfl) ?_) | fail); try simp -dsimp -implicitDefEqProofs (maxSteps := 1000000) (disch := first | omega | (simp only [LN, e1, e2]; omega)) only [go_sem, e1, e2])
  | fail)
theorem dThread6 (A : Dv) (J : JT) (k : Nat) (hk : k < 8) : ACalls Tryz.prog 34 [.loc 0 0, .p (.v (.int .i64 k))] (dvL A J) (.loc (4 + k) 0) (dvL A J) := by
 refine yA (E := E) (fn := Tryz.f34) 21 [.tmp 4] rfl rfl rfl rfl (by decide) rfl rfl ?_
 rcases lt8 hk with rfl | rfl | rfl | rfl | rfl | rfl | rfl | rfl
 all_goals
  repeat' (first
   | (with_reducible first | apply zY | apply zT | apply zM | apply zN | apply zO | refine chk_ok (by kernel_rfl) ?_)
   | ((with_reducible first | apply zP | apply zQ | apply zR | apply zL) <;> intro h)
   | ((with_reducible show False); omega)
   | ((first | (with_reducible first | apply zW | apply zV | apply zU | apply zS | apply zX | show VX _ _ _ _ _ _ _ | show vstep _ _ _ _ _ | show vskip _ _ _ | show withV _ _) | ((with_reducible show endA _ _ _ _ _ _ _); simp -implicitDefEqProofs only [endA]) | (with_reducible first | refine zB default (by first | omega | (simp only [LN]; omega)) (by first | omega | (simp only [LN]; omega)) ?_ | refine zC default (by first | omega | (simp only [LN]; omega)) ?_ | refine And.intro (by first | decide | omega | assumption | (simp only [LN]; omega)) ?_) | ((with_reducible show pickE _ _ _); first | refine zA _ ⟨by omega, by rfl⟩ ?_ | refine zA _ (by rfl) ?_) | fail); try simp -dsimp -implicitDefEqProofs (maxSteps := 1000000) (disch := first | omega | (simp only [LN]; omega)) only [go_sem])
   | fail)
def Dv.isW (A : Dv) (o : Int) : Bool := decide (o % 8 = 0) && decide (o < ((64 * A.n : Nat) : Int))
theorem tWord (A : Dv) (J : JT) (k : Nat) (hk : k < 8) (hn : A.n ≤ 6) (o : Int) (ho : 0 ≤ o ∧ o ≤ 18446744073709551615) : ACalls Tryz.prog 85 [.loc (4 + k) 0, .p (.v (.int .u64 o))] (dvL A J) (.p (.v (.bool (A.isW o)))) (dvL A J) := by
 refine yA (E := E) (fn := Tryz.f85) 17 [.tmp 4] rfl rfl rfl rfl (by decide) rfl rfl ?_
 have e1 : o.tmod 8 = o % 8 := Int.tmod_eq_emod_of_nonneg ho.1
 repeat' (first
  | (with_reducible first | apply zY | apply zT | apply zM | apply zN | apply zO | refine chk_ok (by kernel_rfl) ?_)
  | ((with_reducible first | apply zP | apply zQ | apply zR | apply zL) <;> intro h)
  | ((with_reducible show False); omega)
  | ((first | (with_reducible first | apply zW | apply zV | apply zU | apply zS | apply zX | show VX _ _ _ _ _ _ _ | show vstep _ _ _ _ _ | show vskip _ _ _ | show withV _ _) | ((with_reducible show endA _ _ _ _ _ _ _); simp -implicitDefEqProofs only [endA]) | (with_reducible first | refine zB default (by first | omega | (simp only [LN, e1]; omega)) (by first | omega | (simp only [LN, e1]; omega)) ?_ | refine zC default (by first | omega | (simp only [LN, e1]; omega)) ?_ | refine And.intro (by first | decide | omega | assumption | (simp only [LN, e1]; omega)) ?_) | (with_reducible first | apply zG | apply zH | apply zI) | ((with_reducible apply zJ); (first | exact dSize6 A J hn | fail)) | ((with_reducible show pickE _ _ _); first | refine zA _ ⟨by omega, by rfl⟩ ?_ | refine zA _ (by rfl) ?_) | fail); try simp -dsimp -implicitDefEqProofs (maxSteps := 1000000) (disch := first | omega | (simp only [LN, e1]; omega)) only [go_sem, e1])
  | fail)
 all_goals (simp [Dv.isW, h])
end Go.Proofs.YtckhjklcfagkoaaGreatDoor
namespace Go.Proofs.YtckhjklcfagkoaaGreatDoor
set_option maxHeartbeats 4000000
set_option maxRecDepth 100000
open Go Go.Ab
attribute [local irreducible] callK callF loopQ vstep vskip pickE hideP
attribute [local go_sem] deO peO cuO liO thO hiO noO
theorem cnt_f {A : Dv} {k : Nat} {v : Bool} (h : (!A.off && v) = false) : A.cnt k v = A.onS k v := by
 cases ho : A.off <;> cases v <;> simp_all [Dv.cnt, Dv.onS]
theorem cntB_f {A : Dv} {v : Bool} (h : (!A.off && v) = false) : A.cntB v = false := by
 cases ho : A.off <;> cases v <;> simp_all [Dv.cntB]
theorem tCnt (A : Dv) (J : JT) (k : Nat) (hk : k < 8) (v : Bool) : ACalls Tryz.prog 84 [.loc (4 + k) 0, .p (.v (.bool v))] (dvL A J) (.p (.v (.bool (A.cntB v)))) (dvL (A.cnt k v) J) := by
 refine yA (E := E) (fn := Tryz.f84) 42 [.tmp 4] rfl rfl rfl rfl (by decide) rfl rfl ?_
 by_cases hv : (!A.off && v) = true
 ·have kn := tOn1 A J _ hk v hv
  have kf := tFail { A with off := true } J _ hk 3
  repeat' (first
   | (with_reducible first | apply zY | apply zT | apply zM | apply zN | apply zO | refine chk_ok (by kernel_rfl) ?_)
   | ((with_reducible first | apply zP | apply zQ | apply zR | apply zL) <;> intro h)
   | ((with_reducible show False); omega)
   | ((first | (with_reducible first | apply zW | apply zV | apply zU | apply zS | apply zX | show VX _ _ _ _ _ _ _ | show vstep _ _ _ _ _ | show vskip _ _ _ | show withV _ _) | ((with_reducible show endA _ _ _ _ _ _ _); simp -implicitDefEqProofs only [endA]) | (with_reducible first | refine zB default (by first | omega | (simp only [LN]; omega)) (by first | omega | (simp only [LN]; omega)) ?_ | refine zC default (by first | omega | (simp only [LN]; omega)) ?_ | refine And.intro (by first | decide | omega | assumption | (simp only [LN]; omega)) ?_) | (with_reducible first | apply zG | apply zH | apply zI) | ((with_reducible apply zJ); (first | exact kn | exact kf | fail)) | ((with_reducible show pickE _ _ _); first | refine zA _ ⟨by omega, by rfl⟩ ?_ | refine zA _ (by rfl) ?_) | fail); try simp -dsimp -implicitDefEqProofs (maxSteps := 1000000) (disch := first | omega | (simp only [LN]; omega)) only [go_sem])
   | fail)
  all_goals (simp at hv; simp [Dv.cnt, Dv.cntB, Dv.fail, jk, *])
 ·simp only [Bool.not_eq_true] at hv
  rw [cnt_f hv, cntB_f hv]
  have kn := tOn0 A J _ hk v hv
  repeat' (first
   | (with_reducible first | apply zY | apply zT | apply zM | apply zN | apply zO | refine chk_ok (by kernel_rfl) ?_)
   | ((with_reducible first | apply zP | apply zQ | apply zR | apply zL) <;> intro h)
   | ((with_reducible show False); omega)
   | ((first | (with_reducible first | apply zW | apply zV | apply zU | apply zS | apply zX | show VX _ _ _ _ _ _ _ | show vstep _ _ _ _ _ | show vskip _ _ _ | show withV _ _) | ((with_reducible show endA _ _ _ _ _ _ _); simp -implicitDefEqProofs only [endA]) | (with_reducible first | refine zB default (by first | omega | (simp only [LN]; omega)) (by first | omega | (simp only [LN]; omega)) ?_ | refine zC default (by first | omega | (simp only [LN]; omega)) ?_ | refine And.intro (by first | decide | omega | assumption | (simp only [LN]; omega)) ?_) | (with_reducible first | apply zG | apply zH | apply zI) | ((with_reducible apply zJ); (first | exact kn | fail)) | ((with_reducible show pickE _ _ _); first | refine zA _ ⟨by omega, by rfl⟩ ?_ | refine zA _ (by rfl) ?_) | fail); try simp -dsimp -implicitDefEqProofs (maxSteps := 1000000) (disch := first | omega | (simp only [LN]; omega)) only [go_sem])
   | fail)
end Go.Proofs.YtckhjklcfagkoaaGreatDoor
