/- Contracts of functions of this program, and the plain facts that they rest on. No conditions. -/
import Derived.Test.YtckhjklcfagkoaaGreatDoorJStCQ
import Derived.Test.YtckhjklcfagkoaaGreatDoorJRvQQ
set_option linter.unusedSimpArgs false
set_option linter.unusedVariables false
namespace Go.Proofs.YtckhjklcfagkoaaGreatDoor
set_option maxHeartbeats 4000000
set_option maxRecDepth 100000
open Go Go.Ab
attribute [local irreducible] callK callF loopQ vstep vskip pickE hideP
theorem dCloneO0 (es : List PV) : ACalls Tryz.prog 64 [.p (.v (.slice none 0 0))] [.arr 2 es] (.sl 1 2 0 0) [.arr 2 es, .arr 2 []] := by
 refine yA (E := E) (fn := Tryz.f64) 8 [.tmp 2] rfl rfl rfl rfl (by decide) rfl rfl ?_
 repeat' (first
  | (with_reducible first | apply zY | apply zT | apply zM | apply zN | apply zO | refine chk_ok (by kernel_rfl) ?_)
  | ((with_reducible first | apply zP | apply zQ | apply zR | apply zL) <;> intro h <;> try (exfalso; first | omega | exact h rfl | (revert h; decide) | (cases h; done)))
  | ((with_reducible show False); omega)
  | ((first | (with_reducible first | apply zW | apply zV | apply zU | apply zS | apply zX | show VX _ _ _ _ _ _ _ | show vstep _ _ _ _ _ | show vskip _ _ _ | show withV _ _) | ((with_reducible show endA _ _ _ _ _ _ _); simp -implicitDefEqProofs only [endA]) | (with_reducible first | refine zB default (by first | omega | (simp only [LN]; omega)) (by first | omega | (simp only [LN]; omega)) ?_ | refine zC default (by first | omega | (simp only [LN]; omega)) ?_ | refine And.intro (by first | decide | omega | assumption | (simp only [LN]; omega)) ?_) | ((with_reducible show pickE _ _ _); first | refine zA _ ⟨by omega, by rfl⟩ ?_ | refine zA _ (by rfl) ?_) | fail); try simp -dsimp -implicitDefEqProofs (maxSteps := 1000000) (disch := first | omega | (simp only [LN]; omega)) only [go_sem])
  | fail)
theorem dCloneO1 (es : List PV) : ACalls Tryz.prog 64 [.p (.nview 2 [])] [.arr 2 es] (.sl 1 2 0 0) [.arr 2 es, .arr 2 []] := by
 refine yA (E := E) (fn := Tryz.f64) 8 [.tmp 2] rfl rfl rfl rfl (by decide) rfl rfl ?_
 repeat' (first
  | (with_reducible first | apply zY | apply zT | apply zM | apply zN | apply zO | refine chk_ok (by kernel_rfl) ?_)
  | ((with_reducible first | apply zP | apply zQ | apply zR | apply zL) <;> intro h <;> try (exfalso; first | omega | exact h rfl | (revert h; decide) | (cases h; done)))
  | ((with_reducible show False); omega)
  | ((first | (with_reducible first | apply zW | apply zV | apply zU | apply zS | apply zX | show VX _ _ _ _ _ _ _ | show vstep _ _ _ _ _ | show vskip _ _ _ | show withV _ _) | ((with_reducible show endA _ _ _ _ _ _ _); simp -implicitDefEqProofs only [endA]) | (with_reducible first | refine zB default (by first | omega | (simp only [LN]; omega)) (by first | omega | (simp only [LN]; omega)) ?_ | refine zC default (by first | omega | (simp only [LN]; omega)) ?_ | refine And.intro (by first | decide | omega | assumption | (simp only [LN]; omega)) ?_) | ((with_reducible show pickE _ _ _); first | refine zA _ ⟨by omega, by rfl⟩ ?_ | refine zA _ (by rfl) ?_) | fail); try simp -dsimp -implicitDefEqProofs (maxSteps := 1000000) (disch := first | omega | (simp only [LN]; omega)) only [go_sem])
  | fail)
theorem dCloneO2 (es : List PV) (st n : Nat) (h0 : 0 < n) (hn : st + n ≤ es.length) (hl : es.length ≤ 1000000000) : ACalls Tryz.prog 64 [.sl 0 2 st n] [.arr 2 es] (.sl 1 2 0 n) [.arr 2 es, .arr 2 ((es.drop st).take n)] := by
 refine yA (E := E) (fn := Tryz.f64) 8 [.tmp 2] rfl rfl rfl rfl (by decide) rfl rfl ?_
 have hl2 : ((es.drop st).take n).length = n := by rw [List.length_take, List.length_drop]; omega
 cases st with
 | zero =>
  rw [List.drop_zero] at hl2 ⊢
  repeat' (first
   | (with_reducible first | apply zY | apply zT | apply zM | apply zN | apply zO | refine chk_ok (by kernel_rfl) ?_)
   | ((with_reducible first | apply zP | apply zQ | apply zR | apply zL) <;> intro h <;> try (exfalso; first | omega | exact h rfl | (revert h; decide) | (cases h; done)))
   | ((with_reducible show False); omega)
   | ((first | (with_reducible first | apply zW | apply zV | apply zU | apply zS | apply zX | show VX _ _ _ _ _ _ _ | show vstep _ _ _ _ _ | show vskip _ _ _ | show withV _ _) | ((with_reducible show endA _ _ _ _ _ _ _); simp -implicitDefEqProofs only [endA]) | (with_reducible first | refine zB default (by first | omega | (simp only [LN, hl2]; omega)) (by first | omega | (simp only [LN, hl2]; omega)) ?_ | refine zC default (by first | omega | (simp only [LN, hl2]; omega)) ?_ | refine And.intro (by first | decide | omega | assumption | (simp only [LN, hl2]; omega)) ?_) | ((with_reducible show pickE _ _ _); first | refine zA _ ⟨by omega, by rfl⟩ ?_ | refine zA _ (by rfl) ?_) | fail); try simp -dsimp -implicitDefEqProofs (maxSteps := 1000000) (disch := first | omega | (simp only [LN, hl2]; omega)) only [go_sem, hl2])
   | fail)
 | succ st =>
  repeat' (first
   | (with_reducible first | apply zY | apply zT | apply zM | apply zN | apply zO | refine chk_ok (by kernel_rfl) ?_)
   | ((with_reducible first | apply zP | apply zQ | apply zR | apply zL) <;> intro h <;> try (exfalso; first | omega | exact h rfl | (revert h; decide) | (cases h; done)))
   | ((with_reducible show False); omega)
   | ((first | (with_reducible first | apply zW | apply zV | apply zU | apply zS | apply zX | show VX _ _ _ _ _ _ _ | show vstep _ _ _ _ _ | show vskip _ _ _ | show withV _ _) | ((with_reducible show endA _ _ _ _ _ _ _); simp -implicitDefEqProofs only [endA]) | (with_reducible first | refine zB default (by first | omega | (simp only [LN, hl2]; omega)) (by first | omega | (simp only [LN, hl2]; omega)) ?_ | refine zC default (by first | omega | (simp only [LN, hl2]; omega)) ?_ | refine And.intro (by first | decide | omega | assumption | (simp only [LN, hl2]; omega)) ?_) | ((with_reducible show pickE _ _ _); first | refine zA _ ⟨by omega, by rfl⟩ ?_ | refine zA _ (by rfl) ?_) | fail); try simp -dsimp -implicitDefEqProofs (maxSteps := 1000000) (disch := first | omega | (simp only [LN, hl2]; omega)) only [go_sem, hl2])
   | fail)
theorem dCloneO (es : List PV) (st n : Nat) (hn : st + n ≤ es.length) (hl : es.length ≤ 1000000000) : ACalls Tryz.prog 64 [.sl 0 2 st n] [.arr 2 es] (.sl 1 2 0 n) [.arr 2 es, .arr 2 ((es.drop st).take n)] := by
 rcases Nat.eq_zero_or_pos n with rfl | h0
 ·rw [List.take_zero]; exact acalls_sl0 (by decide) (dCloneO0 es) (dCloneO1 es)
 ·exact dCloneO2 es st n h0 hn hl
theorem r_pvar1 {P : Program} {nb : Nat} {c : Code} {Q : Exit → ASt → Prop} {s : ASt} (k m j : Nat) (cs : List AV) (v v' : Int) (hk : nth s.L k = some (some (.pvar m cs))) (hv : cs[j]? = some (.p (.v (.int .u64 v)))) (he : j < m → v' = v)
  (h : awp P nb c Q { s with L := setL s.L k (some (.pvar m (cs.set j (.p (.v (.int .u64 v')))))) }) : awp P nb c Q s := by
 refine ⟨fun Z lb a w hs => ?_⟩
 rw [nth_eq] at hk
 refine h.run Z lb a w (hs.swap hk (fun _ => trivial) fun x hx2 hob => ?_)
 cases x with
 | none => exact hob.elim
 | some b =>
  obtain ⟨h1, h2, vs, arr, ty, fr, g1, g2, g3, g4, g5, g6⟩ := hob
  obtain ⟨u, hu, hr⟩ := g1.get j _ hv
  simp only [ARep, Rep] at hr
  refine ⟨h1, h2, vs.set j (.int .u64 v'), arr, ty, fr, g1.set (by simp [ARep, Rep, oneB]) j, fun x hx => ?_, g3, g4, g5, fun i u2 hi hu2 => ?_⟩
  ·rcases List.mem_or_eq_of_mem_set hx with h | rfl
   ·exact g2 x h
   ·rfl
  ·rw [List.getElem?_set] at hu2
   split at hu2
   ·rename_i e
    subst e
    split at hu2
    ·rw [Option.some.injEq] at hu2
     subst hu2
     rw [he hi, ← hr.1]; exact g6 j u hi hu
    ·cases hu2
   ·exact g6 i u2 hi hu2
def cpA (A : Dv) (i : Nat) : Dv := { Dv.fresh A.n A.per with cur := A.cur, hist := fun r => if r < i then A.hist r else [], done := fun r => if r < i then A.done r else 0 }
theorem cp_n (A : Dv) (i : Nat) : (cpA A i).n = A.n := rfl
theorem cp_per (A : Dv) (i : Nat) : (cpA A i).per = A.per := rfl
theorem cp_cur (A : Dv) (i : Nat) : (cpA A i).cur = A.cur := rfl
theorem cp_err (A : Dv) (i k : Nat) : (cpA A i).err k = 0 := rfl
theorem cp_note (A : Dv) (i k : Nat) : (cpA A i).note k = fun _ => none := rfl
theorem cp_off (A : Dv) (i : Nat) : (cpA A i).off = false := rfl
theorem cp_armed (A : Dv) (i : Nat) : (cpA A i).armed = false := rfl
theorem cp_left (A : Dv) (i : Nat) : (cpA A i).left = 0 := rfl
theorem cp_ex (A : Dv) (i : Nat) : (cpA A i).ex = 0 := rfl
theorem cp_hist (A : Dv) (i r : Nat) : (cpA A i).hist r = if r < i then A.hist r else [] := rfl
theorem cp_done (A : Dv) (i r : Nat) : (cpA A i).done r = if r < i then A.done r else 0 := rfl
theorem jk_J0 (A : Dv) (r : Nat) : jk A J0 r = [] := by unfold jk; split <;> rfl
attribute [local go_sem] eU deO peO cuO liO thO hiO noO cp_n cp_per cp_cur cp_err cp_note cp_off cp_armed cp_left cp_ex jk_J0
theorem dCopy (A : Dv) (J : JT) (N : Nat) (h : Inv A J N) (hN : N ≤ 1000000) : ACalls Tryz.prog 15 [.loc 0 0] (dvL A J) (.loc 26 0) (dvL A J ++ [deO A 27 28 29 30, peO A, cuO A, liO A J0 38, thO A 0 26 44, thO A 1 26 44, thO A 2 26 44, thO A 3 26 44, thO A 4 26 44, thO A 5 26 44, thO A 6 26 44, thO A 7 26 44, hiO A J0 0, hiO A J0 1, hiO A J0 2, hiO A J0 3, hiO A J0 4, hiO A J0 5, noO A 0, noO A 1, noO A 2, noO A 3, noO A 4, noO A 5, noO A 6, noO A 7]) := by
 refine yA (E := E) (fn := Tryz.f15) 113 [.tmp 2] rfl rfl rfl rfl (by decide) rfl rfl ?_
 have h6 := h.wf.n6
 have h0 := h.wf.n0
 have hp := h.wf.per
 have hc := h.wf.cur
 have k1 := dClone A.per (by omega)
 rw [hp] at k1
 have k2 := dOf6 A.per A.n hp ⟨h0, h6⟩
 have f1 : (Dv.fresh A.n A.per).per = A.per := rfl
 have f2 : (Dv.fresh A.n A.per).cur = A.per := rfl
 have f3 : (Dv.fresh A.n A.per).n = A.n := rfl
 repeat' (first
  | (with_reducible first | apply zY | apply zT | apply zM | apply zN | apply zO | refine chk_ok (by kernel_rfl) ?_)
  | ((with_reducible first | apply zP | apply zQ | apply zR | apply zL) <;> intro h <;> try (exfalso; first | omega | exact h rfl | (revert h; decide) | (cases h; done)))
  | ((with_reducible show False); omega)
  | ((first | (with_reducible first | apply zW | apply zV | apply zU | apply zS | apply zX | show VX _ _ _ _ _ _ _ | show vstep _ _ _ _ _ | show vskip _ _ _ | show withV _ _) | ((with_reducible show endA _ _ _ _ _ _ _); simp -implicitDefEqProofs only [endA]) | (with_reducible first | refine zB default (by first | omega | (simp only [LN, hp, hc, f1, f2, f3]; omega)) (by first | omega | (simp only [LN, hp, hc, f1, f2, f3]; omega)) ?_ | refine zC default (by first | omega | (simp only [LN, hp, hc, f1, f2, f3]; omega)) ?_ | refine And.intro (by first | decide | omega | assumption | (simp only [LN, hp, hc, f1, f2, f3]; omega)) ?_) | (with_reducible first | apply zG | apply zH | apply zI) | ((with_reducible apply zJ); (first | exact k1 | exact k2 | fail)) | ((with_reducible show pickE _ _ _); first | refine zA _ ⟨by omega, by rfl⟩ ?_ | refine zA _ (by rfl) ?_) | fail); try simp -dsimp -implicitDefEqProofs (maxSteps := 1000000) (disch := first | omega | (simp only [LN, hp, hc, f1, f2, f3]; omega)) only [go_sem, hp, hc, f1, f2, f3])
  | fail)
 all_goals try omega
 have fz : ∀ r, (Dv.fresh A.n A.per).done r = 0 ∧ (Dv.fresh A.n A.per).hist r = [] ∧ (Dv.fresh A.n A.per).err r = 0 ∧ ((Dv.fresh A.n A.per).note r = fun _ => none) := fun _ => ⟨rfl, rfl, rfl, rfl⟩
 have fy : (Dv.fresh A.n A.per).off = false ∧ (Dv.fresh A.n A.per).armed = false ∧ (Dv.fresh A.n A.per).left = 0 ∧ (Dv.fresh A.n A.per).ex = 0 := ⟨rfl, rfl, rfl, rfl⟩
 have hdp : A.per.drop (8 * A.n) = [] := List.drop_of_length_le (by omega)
 have q0 : ∀ r, (cpA A 0).hist r = [] ∧ (cpA A 0).done r = 0 := fun r => ⟨by rw [cp_hist, if_neg (by omega)], by rw [cp_done, if_neg (by omega)]⟩
 refine r_loop (α := Nat) (fun i => ⟨113, [(0, some (.loc 0 0)), (3, some (.loc 26 0)), (28, some (.sl 3 2 0 A.n)), (29, some (.p (.v (.int .i64 A.n)))), (30, some (.p (.v (.int .i64 i))))], someL (dvL A J) ++ [some (deO (cpA A i) 27 28 29 30), some (peO (cpA A i)), some (cuO (cpA A i)), some (liO (cpA A i) J0 38), some (thO (cpA A i) 0 26 44), some (thO (cpA A i) 1 26 44), some (thO (cpA A i) 2 26 44), some (thO (cpA A i) 3 26 44), some (thO (cpA A i) 4 26 44), some (thO (cpA A i) 5 26 44), some (thO (cpA A i) 6 26 44), some (thO (cpA A i) 7 26 44), some (hiO (cpA A i) J0 0), some (hiO (cpA A i) J0 1), some (hiO (cpA A i) J0 2), some (hiO (cpA A i) J0 3), some (hiO (cpA A i) J0 4), some (hiO (cpA A i) J0 5), some (noO (cpA A i) 0), some (noO (cpA A i) 1), some (noO (cpA A i) 2), some (noO (cpA A i) 3), some (noO (cpA A i) 4), some (noO (cpA A i) 5), some (noO (cpA A i) 6), some (noO (cpA A i) 7)]⟩) (fun i => i ≤ A.n) (fun i => A.n - i) 0 (Nat.zero_le _) ?_ ?_
 ·refine wk_auto ?_
  simp -dsimp -implicitDefEqProofs (maxSteps := 1000000) (disch := first | omega | (simp only [LN, q0, fz, fy, f1, f2, f3, hc, hp, hdp]; omega)) only [go_sem, q0, fz, fy, f1, f2, f3, hc, hp, hdp]
 ·intro i hi
  by_cases hin : i < A.n
  ·have hl := h.jl (by omega) i (by omega)
   have hb := h.bd i (by omega)
   have hd := h.wf.len i (by omega)
   have hj := h.jo i (by omega)
   have k3 := dCloneO ((jk A J i).map eWr ++ (A.hist i).map eWr) (jk A J i).length (A.hist i).length (by simp) (by simp; omega)
   rw [show (((jk A J i).map eWr ++ (A.hist i).map eWr).drop (jk A J i).length).take (A.hist i).length = (A.hist i).map eWr from by
    rw [show (jk A J i).length = ((jk A J i).map eWr).length by simp, List.drop_left, List.take_of_length_le (by simp)]] at k3
   rcases lt6 (show i < 6 by omega) with rfl | rfl | rfl | rfl | rfl | rfl
   all_goals
    repeat' (first
     | (with_reducible first | apply zY | apply zT | apply zM | apply zN | apply zO | refine chk_ok (by kernel_rfl) ?_)
     | ((with_reducible first | apply zP | apply zQ | apply zR | apply zL) <;> intro h <;> try (exfalso; first | omega | exact h rfl | (revert h; decide) | (cases h; done)))
     | ((with_reducible show False); omega)
     | ((first | (with_reducible first | apply zW | apply zV | apply zU | apply zS | apply zX | show VX _ _ _ _ _ _ _ | show vstep _ _ _ _ _ | show vskip _ _ _ | show withV _ _) | ((with_reducible show endA _ _ _ _ _ _ _); simp -implicitDefEqProofs only [endA]) | (with_reducible first | refine zB default (by first | omega | (simp only [LN]; omega)) (by first | omega | (simp only [LN]; omega)) ?_ | refine zC default (by first | omega | (simp only [LN]; omega)) ?_ | refine And.intro (by first | decide | omega | assumption | (simp only [LN]; omega)) ?_) | (with_reducible first | apply zG | apply zH | apply zI) | ((with_reducible apply zJ); (first | exact k3 | fail)) | ((with_reducible show pickE _ _ _); first | refine zA _ ⟨by omega, by rfl⟩ ?_ | refine zA _ (by rfl) ?_) | fail); try simp -dsimp -implicitDefEqProofs (maxSteps := 1000000) (disch := first | omega | (simp only [LN]; omega)) only [go_sem])
     | fail)
    refine And.intro (by split <;> (simp <;> omega)) ?_
    repeat' (first
     | (with_reducible first | apply zY | apply zT | apply zM | apply zN | apply zO | refine chk_ok (by kernel_rfl) ?_)
     | ((with_reducible first | apply zP | apply zQ | apply zR | apply zL) <;> intro h <;> try (exfalso; first | omega | exact h rfl | (revert h; decide) | (cases h; done)))
     | ((with_reducible show False); omega)
     | ((first | (with_reducible first | apply zW | apply zV | apply zU | apply zS | apply zX | show VX _ _ _ _ _ _ _ | show vstep _ _ _ _ _ | show vskip _ _ _ | show withV _ _) | ((with_reducible show endA _ _ _ _ _ _ _); simp -implicitDefEqProofs only [endA]) | (with_reducible first | refine zB default (by first | omega | (simp only [LN]; omega)) (by first | omega | (simp only [LN]; omega)) ?_ | refine zC default (by first | omega | (simp only [LN]; omega)) ?_ | refine And.intro (by first | decide | omega | assumption | (simp only [LN]; omega)) ?_) | (with_reducible first | apply zG | apply zH | apply zI) | ((with_reducible apply zJ); (first | exact k3 | fail)) | ((with_reducible show pickE _ _ _); first | refine zA _ ⟨by omega, by rfl⟩ ?_ | refine zA _ (by rfl) ?_) | fail); try simp -dsimp -implicitDefEqProofs (maxSteps := 1000000) (disch := first | omega | (simp only [LN]; omega)) only [go_sem])
     | fail)
    all_goals first | omega | (refine zZ (1) ?_ ?_ ?_; (show 1 ≤ A.n; omega); (show _ < _; omega); (simp -dsimp -implicitDefEqProofs (maxSteps := 1000000) (disch := first | omega | (simp only [LN]; omega)) only [go_sem]; (try trivial); (try simp [cp_hist, cp_done]))) | (refine zZ (2) ?_ ?_ ?_; (show 2 ≤ A.n; omega); (show _ < _; omega); (simp -dsimp -implicitDefEqProofs (maxSteps := 1000000) (disch := first | omega | (simp only [LN]; omega)) only [go_sem]; (try trivial); (try simp [cp_hist, cp_done]))) | (refine zZ (3) ?_ ?_ ?_; (show 3 ≤ A.n; omega); (show _ < _; omega); (simp -dsimp -implicitDefEqProofs (maxSteps := 1000000) (disch := first | omega | (simp only [LN]; omega)) only [go_sem]; (try trivial); (try simp [cp_hist, cp_done]))) | (refine zZ (4) ?_ ?_ ?_; (show 4 ≤ A.n; omega); (show _ < _; omega); (simp -dsimp -implicitDefEqProofs (maxSteps := 1000000) (disch := first | omega | (simp only [LN]; omega)) only [go_sem]; (try trivial); (try simp [cp_hist, cp_done]))) | (refine zZ (5) ?_ ?_ ?_; (show 5 ≤ A.n; omega); (show _ < _; omega); (simp -dsimp -implicitDefEqProofs (maxSteps := 1000000) (disch := first | omega | (simp only [LN]; omega)) only [go_sem]; (try trivial); (try simp [cp_hist, cp_done]))) | (refine zZ (6) ?_ ?_ ?_; (show 6 ≤ A.n; omega); (show _ < _; omega); (simp -dsimp -implicitDefEqProofs (maxSteps := 1000000) (disch := first | omega | (simp only [LN]; omega)) only [go_sem]; (try trivial); (try simp [cp_hist, cp_done])))
  ·obtain rfl : i = A.n := by omega
   have hcd : ∀ r, r < 6 → (cpA A A.n).hist r = A.hist r := fun r hr => by
    rw [cp_hist]
    split
    ·rfl
    ·rename_i hge; exact (h.wf.top r (by omega) hr).symm
   have hcn : ∀ r, 2 * r < 2 * A.n → A.done r = (cpA A A.n).done r := fun r hr => by rw [cp_done, if_pos (by omega)]
   repeat' ((fail_if_success (with_reducible show awp _ _ (Code.seq (Code.region 99 _ _) _) _ _)); first
    | (with_reducible first | apply zY | apply zT | apply zM | apply zN | apply zO | refine chk_ok (by kernel_rfl) ?_)
    | ((with_reducible first | apply zP | apply zQ | apply zR | apply zL) <;> intro h <;> try (exfalso; first | omega | exact h rfl | (revert h; decide) | (cases h; done)))
    | ((with_reducible show False); omega)
    | ((first | (with_reducible first | apply zW | apply zV | apply zU | apply zS | apply zX | show VX _ _ _ _ _ _ _ | show vstep _ _ _ _ _ | show vskip _ _ _ | show withV _ _) | ((with_reducible show endA _ _ _ _ _ _ _); simp -implicitDefEqProofs only [endA]) | (with_reducible first | refine zB default (by first | omega | (simp only [LN]; omega)) (by first | omega | (simp only [LN]; omega)) ?_ | refine zC default (by first | omega | (simp only [LN]; omega)) ?_ | refine And.intro (by first | decide | omega | assumption | (simp only [LN]; omega)) ?_) | ((with_reducible show pickE _ _ _); first | refine zA _ ⟨by omega, by rfl⟩ ?_ | refine zA _ (by rfl) ?_) | fail); try simp -dsimp -implicitDefEqProofs (maxSteps := 1000000) (disch := first | omega | (simp only [LN]; omega)) only [go_sem])
    | fail)
   all_goals try omega
   refine r_pvar1 29 (2 * A.n) 0 _ ((cpA A A.n).done 0) (A.done 0) rfl rfl (hcn 0) ?_
   refine r_pvar1 29 (2 * A.n) 2 _ ((cpA A A.n).done 1) (A.done 1) rfl rfl (hcn 1) ?_
   refine r_pvar1 29 (2 * A.n) 4 _ ((cpA A A.n).done 2) (A.done 2) rfl rfl (hcn 2) ?_
   refine r_pvar1 29 (2 * A.n) 6 _ ((cpA A A.n).done 3) (A.done 3) rfl rfl (hcn 3) ?_
   refine r_pvar1 29 (2 * A.n) 8 _ ((cpA A A.n).done 4) (A.done 4) rfl rfl (hcn 4) ?_
   refine r_pvar1 29 (2 * A.n) 10 _ ((cpA A A.n).done 5) (A.done 5) rfl rfl (hcn 5) ?_
   simp -dsimp -implicitDefEqProofs (maxSteps := 1000000) (disch := first | omega | (simp only [LN, hcd 0 (by decide), hcd 1 (by decide), hcd 2 (by decide), hcd 3 (by decide), hcd 4 (by decide), hcd 5 (by decide)]; omega)) only [go_sem, hcd 0 (by decide), hcd 1 (by decide), hcd 2 (by decide), hcd 3 (by decide), hcd 4 (by decide), hcd 5 (by decide)]
   refine r_rounds 9 ?_
   iterate 8
    refine yF ?_
    repeat' (first
     | (with_reducible first | apply zY | apply zT | apply zM | apply zN | apply zO | refine chk_ok (by kernel_rfl) ?_)
     | ((with_reducible first | apply zP | apply zQ | apply zR | apply zL) <;> intro h <;> try (exfalso; first | omega | exact h rfl | (revert h; decide) | (cases h; done)))
     | ((with_reducible show False); omega)
     | ((first | (with_reducible first | apply zW | apply zV | apply zU | apply zS | apply zX | show VX _ _ _ _ _ _ _ | show vstep _ _ _ _ _ | show vskip _ _ _ | show withV _ _) | ((with_reducible show endA _ _ _ _ _ _ _); simp -implicitDefEqProofs only [endA]) | (with_reducible first | refine zB default (by first | omega | (simp only [LN]; omega)) (by first | omega | (simp only [LN]; omega)) ?_ | refine zC default (by first | omega | (simp only [LN]; omega)) ?_ | refine And.intro (by first | decide | omega | assumption | (simp only [LN]; omega)) ?_) | ((with_reducible show pickE _ _ _); first | refine zA _ ⟨by omega, by rfl⟩ ?_ | refine zA _ (by rfl) ?_) | fail); try simp -dsimp -implicitDefEqProofs (maxSteps := 1000000) (disch := first | omega | (simp only [LN]; omega)) only [go_sem])
     | fail)
    refine ⟨_, rfl, ?_⟩
    repeat' (first
     | (with_reducible first | apply zY | apply zT | apply zM | apply zN | apply zO | refine chk_ok (by kernel_rfl) ?_)
     | ((with_reducible first | apply zP | apply zQ | apply zR | apply zL) <;> intro h <;> try (exfalso; first | omega | exact h rfl | (revert h; decide) | (cases h; done)))
     | ((with_reducible show False); omega)
     | ((first | (with_reducible first | apply zW | apply zV | apply zU | apply zS | apply zX | show VX _ _ _ _ _ _ _ | show vstep _ _ _ _ _ | show vskip _ _ _ | show withV _ _) | ((with_reducible show endA _ _ _ _ _ _ _); simp -implicitDefEqProofs only [endA]) | (with_reducible first | refine zB default (by first | omega | (simp only [LN]; omega)) (by first | omega | (simp only [LN]; omega)) ?_ | refine zC default (by first | omega | (simp only [LN]; omega)) ?_ | refine And.intro (by first | decide | omega | assumption | (simp only [LN]; omega)) ?_) | (with_reducible first | apply zG | apply zH | apply zI) | ((with_reducible apply zJ); (first | exact mClone _ _ | fail)) | ((with_reducible show pickE _ _ _); first | refine zA _ ⟨by omega, by rfl⟩ ?_ | refine zA _ (by rfl) ?_) | fail); try simp -dsimp -implicitDefEqProofs (maxSteps := 1000000) (disch := first | omega | (simp only [LN]; omega)) only [go_sem])
     | fail)
   refine yF ?_
   repeat' (first
    | (with_reducible first | apply zY | apply zT | apply zM | apply zN | apply zO | refine chk_ok (by kernel_rfl) ?_)
    | ((with_reducible first | apply zP | apply zQ | apply zR | apply zL) <;> intro h <;> try (exfalso; first | omega | exact h rfl | (revert h; decide) | (cases h; done)))
    | ((with_reducible show False); omega)
    | ((first | (with_reducible first | apply zW | apply zV | apply zU | apply zS | apply zX | show VX _ _ _ _ _ _ _ | show vstep _ _ _ _ _ | show vskip _ _ _ | show withV _ _) | ((with_reducible show endA _ _ _ _ _ _ _); simp -implicitDefEqProofs only [endA]) | (with_reducible first | refine zB default (by first | omega | (simp only [LN]; omega)) (by first | omega | (simp only [LN]; omega)) ?_ | refine zC default (by first | omega | (simp only [LN]; omega)) ?_ | refine And.intro (by first | decide | omega | assumption | (simp only [LN]; omega)) ?_) | ((with_reducible show pickE _ _ _); first | refine zA _ ⟨by omega, by rfl⟩ ?_ | refine zA _ (by rfl) ?_) | fail); try simp -dsimp -implicitDefEqProofs (maxSteps := 1000000) (disch := first | omega | (simp only [LN]; omega)) only [go_sem])
    | fail)
   all_goals first | omega | rfl
end Go.Proofs.YtckhjklcfagkoaaGreatDoor
