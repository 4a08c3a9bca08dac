/- Contracts of functions of this program, and the plain facts that they rest on. No conditions. -/
import Derived.Test.YtckhjklcfagkoaaGreatDoorJDvI0Q
import Derived.Test.YtckhjklcfagkoaaGreatDoorJScCQ
import Derived.Test.YtckhjklcfagkoaaGreatDoorScHQ
import Derived.Test.YtckhjklcfagkoaaGreatDoorDvUQ
import Derived.Test.YtckhjklcfagkoaaGreatDoorJDvNQ
import Derived.Test.YtckhjklcfagkoaaGreatDoorJDvPQ
set_option linter.unusedSimpArgs false
set_option linter.unusedVariables false
namespace Go.Proofs.YtckhjklcfagkoaaGreatDoor
set_option maxHeartbeats 4000000
set_option maxRecDepth 100000
open Go Go.Ab
attribute [local irreducible] callK callF loopQ vstep vskip pickE hideP
attribute [local go_sem] deO peO cuO liO thO hiO noO
theorem tFlush (A : Dv) (J : JT) (k : Nat) (hk : k < 8) (h : WF A) (o : Int) (ho : 0 ≤ o ∧ o ≤ 18446744073709551615) : ACalls Tryz.prog 41 [.loc (4 + k) 0, .p (.v (.int .u64 o))] (dvL A J) (.p (.tup [])) (dvL (A.flush k o) J) := by
 refine yA (E := E) (fn := Tryz.f41) 55 [] rfl rfl rfl rfl (by decide) rfl rfl ?_
 have h6 := h.n6
 have ks := dSize6 A J h.n6
 have kc := tCnt A J k hk (A.isB o)
 by_cases hc : A.cntB (A.isB o) = true
 ·have hb : A.isB o = true := cntB_of hc
  simp [Dv.isB] at hb
  obtain ⟨r, hr⟩ : ∃ r, r = (o / 64).toNat := ⟨_, rfl⟩
  have hr6 : r < 6 := by omega
  have hrn : r < (A.cnt k (A.isB o)).n := by rw [(cnt_p A k _).1]; omega
  have hl := h.len r hr6
  have e1 : IntKind.u64.wrap (o.tdiv 64) = (r : Int) := by rw [Int.tdiv_eq_ediv_of_nonneg (by omega), IntKind.wrap_u64]; omega
  have e2 : IntKind.i64.wrap (r : Int) = (r : Int) := by rw [IntKind.wrap_i64]; omega
  have hcd := (cnt_p A k (A.isB o)).2.2.2.2.1
  have hch := (cnt_p A k (A.isB o)).2.2.2.1
  have e3 : IntKind.u64.wrap (((A.cnt k (A.isB o)).hist r).length : Int) = ((A.cnt k (A.isB o)).hist r).length := by rw [hch, IntKind.wrap_u64]; omega
  have e4 : IntKind.u64.wrap ((A.cnt k (A.isB o)).done r + ((A.cnt k (A.isB o)).hist r).length) = (A.cnt k (A.isB o)).done r + ((A.cnt k (A.isB o)).hist r).length := by rw [hch, hcd, IntKind.wrap_u64]; omega
  rw [hc] at kc
  rw [show A.flush k o = (A.cnt k (A.isB o)).noted k r from by rw [hr]; exact if_pos hc]
  repeat' (first
   | (with_reducible first | apply zY | apply zT | apply zM | apply zN | apply zO | refine chk_ok (by rcases lt8 hk with rfl | rfl | rfl | rfl | rfl | rfl | rfl | rfl <;> kernel_rfl) ?_)
   | ((with_reducible first | apply zP | apply zQ | apply zR | apply zL) <;> intro h <;> try (exfalso; first | omega | exact h rfl | (revert h; decide) | (cases h; done)))
   | ((with_reducible show False); omega)
   | ((first | (with_reducible first | apply zW | apply zV | apply zU | apply zS | apply zX | show VX _ _ _ _ _ _ _ | show vstep _ _ _ _ _ | show vskip _ _ _ | show withV _ _) | ((with_reducible show endA _ _ _ _ _ _ _); simp -implicitDefEqProofs only [endA]) | (with_reducible first | refine zB default (by first | omega | (simp only [LN, e1, e2, e3, e4]; omega)) (by first | omega | (simp only [LN, e1, e2, e3, e4]; omega)) ?_ | refine zC default (by first | omega | (simp only [LN, e1, e2, e3, e4]; omega)) ?_ | refine And.intro (by first | decide | omega | assumption | (simp only [LN, e1, e2, e3, e4]; omega)) ?_) | (with_reducible first | apply zG | apply zH | apply zI) | ((with_reducible apply zJ); (first | exact ks | exact kc | fail)) | ((with_reducible show pickE _ _ _); first | refine zA _ ⟨by omega, by rfl⟩ ?_ | refine zA _ (by rfl) ?_) | fail); try simp -dsimp -implicitDefEqProofs (maxSteps := 1000000) (disch := first | omega | (simp only [LN, e1, e2, e3, e4]; omega)) only [go_sem, e1, e2, e3, e4])
   | fail)
  simp [Dv.noted, jk]
 ·simp only [Bool.not_eq_true] at hc
  rw [hc] at kc
  rw [show A.flush k o = A.cnt k (A.isB o) from by unfold Dv.flush; rw [hc]; rfl]
  repeat' (first
   | (with_reducible first | apply zY | apply zT | apply zM | apply zN | apply zO | refine chk_ok (by kernel_rfl) ?_)
   | ((with_reducible first | apply zP | apply zQ | apply zR | apply zL) <;> intro h <;> try (exfalso; first | omega | exact h rfl | (revert h; decide) | (cases h; done)))
   | ((with_reducible show False); omega)
   | ((first | (with_reducible first | apply zW | apply zV | apply zU | apply zS | apply zX | show VX _ _ _ _ _ _ _ | show vstep _ _ _ _ _ | show vskip _ _ _ | show withV _ _) | ((with_reducible show endA _ _ _ _ _ _ _); simp -implicitDefEqProofs only [endA]) | (with_reducible first | refine zB default (by first | omega | (simp only [LN]; omega)) (by first | omega | (simp only [LN]; omega)) ?_ | refine zC default (by first | omega | (simp only [LN]; omega)) ?_ | refine And.intro (by first | decide | omega | assumption | (simp only [LN]; omega)) ?_) | (with_reducible first | apply zG | apply zH | apply zI) | ((with_reducible apply zJ); (first | exact ks | exact kc | fail)) | ((with_reducible show pickE _ _ _); first | refine zA _ ⟨by omega, by rfl⟩ ?_ | refine zA _ (by rfl) ?_) | fail); try simp -dsimp -implicitDefEqProofs (maxSteps := 1000000) (disch := first | omega | (simp only [LN]; omega)) only [go_sem])
   | fail)
end Go.Proofs.YtckhjklcfagkoaaGreatDoor
namespace Go.Proofs.YtckhjklcfagkoaaGreatDoor
set_option maxHeartbeats 4000000
set_option maxRecDepth 100000
open Go Go.Ab
attribute [local irreducible] callK callF loopQ vstep vskip pickE hideP
attribute [local go_sem] eE eU deO peO cuO liO thO hiO noO
theorem store_n (A : Dv) (k : Nat) (o v : Int) : (A.store k o v).n = A.n := by
 unfold Dv.store; split
 ·exact (cnt_p A k _).1
 ·exact (cnt_p A k _).1
theorem cas_n (A : Dv) (k : Nat) (o w v : Int) : (A.cas k o w v).n = A.n := by
 unfold Dv.cas; split
 ·exact (cnt_p A k _).1
 ·exact (cnt_p A k _).1
theorem flush_n (A : Dv) (k : Nat) (o : Int) : (A.flush k o).n = A.n := by
 unfold Dv.flush; split
 ·exact (cnt_p A k _).1
 ·exact (cnt_p A k _).1
theorem fence_n (A : Dv) (k : Nat) : (A.fence k).n = A.n := by
 unfold Dv.fence; split
 ·exact (cnt_p A k _).1
 ·exact (cnt_p A k _).1
theorem isW_n {A B : Dv} (h : B.n = A.n) (o : Int) : B.isW o = A.isW o := by unfold Dv.isW; rw [h]
theorem Inv.cas {A : Dv} {J : JT} {N : Nat} (h : Inv A J N) (hN : N < 1000000000) (k : Nat) {o w v : Int} (ho : 0 ≤ o) (hv : 0 ≤ v ∧ v ≤ 18446744073709551615) (g : Bool) : Inv (A.cas k o w v) (jcas A J k o w g) (N + 1) := by
 unfold Dv.cas jcas
 split
 ·rename_i hc
  have hc2 : A.cntB (A.isW o) = true := by unfold Dv.casB at hc; simp only [Bool.and_eq_true] at hc; exact hc.1
  obtain ⟨h1, h2, h3⟩ := isW_of (cntB_of hc2) ho
  exact (h.cnt k _).put hN (by rw [(cnt_p A k _).1]; exact h1) ⟨h2, h3, ho⟩ hv g
 ·exact (h.cnt k _).le (by omega)
theorem Inv.persist {A : Dv} {J : JT} {N : Nat} (h : Inv A J N) {r k : Nat} (hr : r < A.n) (hk : k ≤ (A.hist r).length) : Inv (A.persist r k) (jper A J r k) N := by
 have hw := h.wf
 have h6 := hw.n6
 have hs : ∀ i, i < 6 → (A.persist r k).done i + ((A.persist r k).hist i).length = A.done i + (A.hist i).length := by
  intro i hi
  rw [per_done, per_hist]
  split
  ·rename_i e; subst e; rw [List.length_drop]; omega
  ·rfl
 have h0 : ∀ i, i < 6 → 0 ≤ A.done i := fun i hi => (hw.len i hi).1
 refine ⟨⟨hw.n0, hw.n6, ?_, hw.cur, ?_, ?_, ?_, trivial⟩, ?_, h.jo.persist h0 r k hk, ?_⟩
 ·show (appL A.per _).length = 8 * A.n; rw [appL_len]; exact hw.per
 ·intro i hi x hx
  rw [per_hist] at hx
  split at hx
  ·rename_i e; subst e; exact hw.hist i hi x (List.mem_of_mem_drop hx)
  ·exact hw.hist i hi x hx
 ·intro i h1 h2
  rw [per_hist, if_neg (by have : A.n ≤ i := h1; omega)]
  exact hw.top i h1 h2
 ·intro i hi
  have h1 := hs i hi
  have h2 := hw.len i hi
  refine ⟨?_, by omega⟩
  rw [per_done]; split
  ·rename_i e; subst e; omega
  ·exact h2.1
 ·intro q hq x v hx
  obtain ⟨i, h1, h2, h3, h4⟩ := h.no q hq x v hx
  exact ⟨i, h1, h2, h3, by have := hs i (by omega); omega⟩
 ·intro i hi
  have h1 := hs i hi
  have h2 := h.bd i hi
  omega
theorem Inv.wb {A : Dv} {J : JT} {N : Nat} (h : Inv A J N) (r k : Int) : Inv (A.wb r k) (jwb A J r k) N := by
 unfold Dv.wb jwb
 split
 ·rename_i hb
  simp only [Dv.wbB, Bool.and_eq_true, Bool.not_eq_true', decide_eq_true_eq] at hb
  exact h.persist (by omega) (by omega)
 ·exact h
theorem Inv.arm {A : Dv} {J : JT} {N : Nat} (h : Inv A J N) (n : Int) : Inv (A.arm n) J N := by
 have hw := h.wf
 unfold Dv.arm
 split
 ·exact h
 ·exact ⟨⟨hw.n0, hw.n6, hw.per, hw.cur, hw.hist, hw.top, hw.len, trivial⟩, h.no, h.jo, h.bd⟩
theorem Inv.crash {A : Dv} {J : JT} {N M : Nat} (h : Inv A J N) (c : List UInt8) : Inv (A.crash c) J0 M :=
 (Inv.fresh A.n _ h.wf.n0 h.wf.n6 (fW_len _ _ _)).le (Nat.zero_le _)
noncomputable def Dv.step (A : Dv) (x : Ev) : Dv :=
 if okE x = true then
  (if x.k = 1 then A.store x.th.toNat x.o x.v
    else if x.k = 2 then A.cas x.th.toNat x.o x.w x.v
    else if x.k = 3 then A.flush x.th.toNat x.o
    else if x.k = 4 then A.fence x.th.toNat
    else if x.k = 5 then A.wb x.ln x.n
    else if x.k = 6 then A.arm x.n
    else A.crash x.ch)
 else A
def Dv.stepB (A : Dv) (x : Ev) : Bool := okE x && (if x.k = 2 then A.casB x.o x.w else if x.k = 5 then A.wbB x.ln x.n else false)
noncomputable def Dv.stepE (A : Dv) (x : Ev) : Int :=
 if okE x = true then
  (if x.k = 1 ∨ x.k = 2 then (if (A.step x).off = true then 3 else if A.isW x.o = true then 0 else 2)
    else if x.k = 3 then (if (A.step x).off = true then 3 else if A.isB x.o = true then 0 else 2)
    else if x.k = 4 then (if (A.step x).off = true then 3 else 0)
    else 0)
 else 1
theorem dWordS (A : Dv) (J : JT) (hn : A.n ≤ 6) (o : Int) (ho : 0 ≤ o ∧ o ≤ 18446744073709551615) : ACalls Tryz.prog 39 [.loc 0 0, .p (.v (.int .u64 o))] (dvL A J) (.p (.v (.bool (A.isW o)))) (dvL A J) := by
 refine yA (E := E) (fn := Tryz.f39) 14 [.tmp 4] rfl rfl rfl rfl (by decide) rfl rfl ?_
 have e1 : o.tmod 8 = o % 8 := Int.tmod_eq_emod_of_nonneg ho.1
 repeat' (first
  | (with_reducible first | apply zY | apply zT | apply zM | apply zN | apply zO | refine chk_ok (by kernel_rfl) ?_)
  | ((with_reducible first | apply zP | apply zQ | apply zR | apply zL) <;> intro h)
  | ((with_reducible show False); omega)
  | ((first | (with_reducible first | apply zW | apply zV | apply zU | apply zS | apply zX | show VX _ _ _ _ _ _ _ | show vstep _ _ _ _ _ | show vskip _ _ _ | show withV _ _) | ((with_reducible show endA _ _ _ _ _ _ _); simp -implicitDefEqProofs only [endA]) | (with_reducible first | refine zB default (by first | omega | (simp only [LN, e1]; omega)) (by first | omega | (simp only [LN, e1]; omega)) ?_ | refine zC default (by first | omega | (simp only [LN, e1]; omega)) ?_ | refine And.intro (by first | decide | omega | assumption | (simp only [LN, e1]; omega)) ?_) | (with_reducible first | apply zG | apply zH | apply zI) | ((with_reducible apply zJ); (first | exact dSize6 A J hn | fail)) | ((with_reducible show pickE _ _ _); first | refine zA _ ⟨by omega, by rfl⟩ ?_ | refine zA _ (by rfl) ?_) | fail); try simp -dsimp -implicitDefEqProofs (maxSteps := 1000000) (disch := first | omega | (simp only [LN, e1]; omega)) only [go_sem, e1])
  | fail)
 all_goals (simp [Dv.isW, h])
theorem dStepN (A : Dv) (J : JT) (N : Nat) (h : Inv A J N) (x : Ev) (hc : x.ch.length ≤ 1000000) (hv : okE x = false) : ACallsX Tryz.prog 11 [.loc 0 0, .p (eE x)] (dvL A J) (fun g : { J2 : JT // Inv (A.step x) J2 (N + 1) } => .tup [.loc 0 0, .p (.v (.bool (A.stepB x))), .p (.v (.int .i64 (A.stepE x)))]) (fun g : { J2 : JT // Inv (A.step x) J2 (N + 1) } => (dv2 (A.step x) g.1)) := by
 refine yC (E := E) (fn := Tryz.f11) 95 [.tmp 4, .tmp 5, .tmp 6] rfl rfl rfl rfl (by decide) rfl (fun _ => rfl) ?_
 have kv := sValid x hc
 rw [hv] at kv
 have e1 : A.step x = A := by unfold Dv.step; rw [hv]; rfl
 have e2 : A.stepB x = false := by unfold Dv.stepB; rw [hv]; rfl
 have e3 : A.stepE x = 1 := by unfold Dv.stepE; rw [hv]; rfl
 repeat' (first
  | (with_reducible first | apply zY | apply zT | apply zM | apply zN | apply zO | refine chk_ok (by kernel_rfl) ?_)
  | ((with_reducible first | apply zP | apply zQ | apply zR | apply zL) <;> intro h <;> try (exfalso; first | omega | exact h rfl | (revert h; decide) | (cases h; done)))
  | ((with_reducible show False); omega)
  | ((first | (with_reducible first | apply zW | apply zV | apply zU | apply zS | apply zX | show VX _ _ _ _ _ _ _ | show vstep _ _ _ _ _ | show vskip _ _ _ | show withV _ _) | ((with_reducible show endA _ _ _ _ _ _ _); simp -implicitDefEqProofs only [endA]) | (with_reducible first | refine zB default (by first | omega | (simp only [LN]; omega)) (by first | omega | (simp only [LN]; omega)) ?_ | refine zC default (by first | omega | (simp only [LN]; omega)) ?_ | refine And.intro (by first | decide | omega | assumption | (simp only [LN]; omega)) ?_) | ((with_reducible apply zD); (exact kv)) | ((with_reducible apply zE); (exact kv); rfl) | ((with_reducible apply zF); (exact kv)) | ((with_reducible show pickE _ _ _); first | refine zA _ ⟨by omega, by rfl⟩ ?_ | refine zA _ (by rfl) ?_) | fail); try simp -dsimp -implicitDefEqProofs (maxSteps := 1000000) (disch := first | omega | (simp only [LN]; omega)) only [go_sem])
  | fail)
 (refine endX_i (⟨J, by rw [e1]; exact h.le (by omega)⟩) ?_; simp -implicitDefEqProofs only [endA]; (simp -dsimp -implicitDefEqProofs (maxSteps := 1000000) (disch := first | omega | (simp only [LN, e1, e2, e3]; omega)) only [go_sem, e1, e2, e3]; try trivial))
theorem dStep1 (A : Dv) (J : JT) (N : Nat) (h : Inv A J N) (hN : N < 1000000000) (x : Ev) (R : Rng x) (hv : okE x = true) (hk : x.k = 1) : ACallsX Tryz.prog 11 [.loc 0 0, .p (eE x)] (dvL A J) (fun g : { J2 : JT // Inv (A.step x) J2 (N + 1) } => .tup [.loc 0 0, .p (.v (.bool (A.stepB x))), .p (.v (.int .i64 (A.stepE x)))]) (fun g : { J2 : JT // Inv (A.step x) J2 (N + 1) } => (dv2 (A.step x) g.1)) := by
 refine yC (E := E) (fn := Tryz.f11) 95 [.tmp 4, .tmp 5, .tmp 6] rfl rfl rfl rfl (by decide) rfl (fun _ => rfl) ?_
 have kv := sValid x (by have := okE_t hv; unfold okK at this; omega)
 rw [hv] at kv
 have hro := R.o
 have hrv := R.v
 obtain ⟨e, h1, h2⟩ := ev_1 (okE_t hv) hk
 obtain ⟨t, ht⟩ := Int.eq_ofNat_of_zero_le h1
 have ht8 : t < 8 := by omega
 rw [ht] at e
 generalize x.o = o at *
 generalize x.v = v at *
 subst e
 have e1 : A.step ⟨1, (t : Int), o, v, 0, 0, 0, []⟩ = A.store t o v := by unfold Dv.step; rw [hv]; rfl
 have e2 : A.stepB ⟨1, (t : Int), o, v, 0, 0, 0, []⟩ = false := by unfold Dv.stepB; rw [hv]; rfl
 have e3 : A.stepE ⟨1, (t : Int), o, v, 0, 0, 0, []⟩ = if (A.store t o v).off = true then 3 else if A.isW o = true then 0 else 2 := by unfold Dv.stepE; rw [hv, e1]; simp
 have kt := dThread6 A J t ht8
 have ks := tStore A J t ht8 h.wf (h.jl (by omega)) o v hro hrv
 have hI := fun g => h.store hN t hro.1 hrv g
 have hn := store_n A t o v
 have h6 := h.wf.n6
 have kw := fun g => dWordS (A.store t o v) (jsto A J t o g) (by omega) o hro
 rw [isW_n hn] at kw
 have kf := fun g => dOff6 (A.store t o v) (jsto A J t o g)
 generalize hB : A.store t o v = B at *
 generalize hw : A.isW o = w at *
 repeat' (first
  | (with_reducible first | apply zY | apply zT | apply zM | apply zN | apply zO | refine chk_ok (by kernel_rfl) ?_)
  | ((with_reducible first | apply zP | apply zQ | apply zR | apply zL) <;> intro h <;> try (exfalso; first | omega | exact h rfl | (revert h; decide) | (cases h; done)))
  | ((with_reducible show False); omega)
  | ((with_reducible first | refine r_gr0 [39] (by with_unfolding_all exact rfl) ?_ | refine r_gr1 [39] (by with_unfolding_all exact rfl) ?_ | refine r_gr2 [39] (by with_unfolding_all exact rfl) ?_ | refine r_gr3 [39] (by with_unfolding_all exact rfl) ?_ | refine r_gr4 [39] (by with_unfolding_all exact rfl) ?_ | refine r_gr5 [39] (by with_unfolding_all exact rfl) ?_ | refine r_gr6 [39] (by with_unfolding_all exact rfl) ?_ | refine r_gr7 [39] (by with_unfolding_all exact rfl) ?_ | refine r_gr8 [39] (by with_unfolding_all exact rfl) ?_ | refine r_gr9 [39] (by with_unfolding_all exact rfl) ?_ | refine r_gr10 [39] (by with_unfolding_all exact rfl) ?_); simp -dsimp -implicitDefEqProofs (maxSteps := 1000000) (disch := first | omega | (simp only [LN]; omega)) only [go_sem])
  | ((first | (with_reducible first | apply zW | apply zV | apply zU | apply zS | apply zX | show VX _ _ _ _ _ _ _ | show vstep _ _ _ _ _ | show vskip _ _ _ | show withV _ _) | ((with_reducible show endA _ _ _ _ _ _ _); simp -implicitDefEqProofs only [endA]) | (with_reducible first | refine zB default (by first | omega | (simp only [LN]; omega)) (by first | omega | (simp only [LN]; omega)) ?_ | refine zC default (by first | omega | (simp only [LN]; omega)) ?_ | refine And.intro (by first | decide | omega | assumption | (simp only [LN]; omega)) ?_) | ((with_reducible apply zD); (exact kv)) | ((with_reducible apply zE); (exact kv); rfl) | ((with_reducible apply zF); (exact kv)) | (with_reducible first | apply zG | apply zH | apply zI) | ((with_reducible apply zJ); (first | exact kt | exact kw _ | exact kf _ | fail)) | ((with_reducible apply zK); (first | exact ks | fail); intro gq) | ((with_reducible show pickE _ _ _); first | refine zA _ ⟨by omega, by rfl⟩ ?_ | refine zA _ (by rfl) ?_) | fail); try simp -dsimp -implicitDefEqProofs (maxSteps := 1000000) (disch := first | omega | (simp only [LN]; omega)) only [go_sem])
  | fail)
 all_goals
  (refine endX_i (⟨jsto A J t o gq, by rw [e1]; exact hI gq⟩) ?_; simp -implicitDefEqProofs only [endA]; (simp -dsimp -implicitDefEqProofs (maxSteps := 1000000) (disch := first | omega | (simp only [LN, e1, e2, e3]; omega)) only [go_sem, e1, e2, e3]; try trivial))
  all_goals first | (simp [*]; done)
end Go.Proofs.YtckhjklcfagkoaaGreatDoor
