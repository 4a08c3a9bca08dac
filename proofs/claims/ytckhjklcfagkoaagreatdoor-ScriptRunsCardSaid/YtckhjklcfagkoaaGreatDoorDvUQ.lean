/- Contracts of functions of this program, and the plain facts that they rest on. No conditions. -/
import Derived.Test.YtckhjklcfagkoaaGreatDoorJDvNQ
set_option linter.unusedSimpArgs false
set_option linter.unusedVariables false
namespace Go.Proofs.YtckhjklcfagkoaaGreatDoor
set_option maxHeartbeats 4000000
set_option maxRecDepth 100000
open Go Go.Ab
attribute [local irreducible] callK callF loopQ vstep vskip pickE hideP
attribute [local go_sem] eU deO peO cuO liO thO hiO noO
theorem dNew6 (n : Nat) (hn : 0 < n ∧ n ≤ 6) : ACalls Tryz.prog 31 [.p (.v (.int .i64 n))] [] (.tup [.loc 0 0, .p (.v (.int .i64 0))]) (dvL (Dv.fresh n (List.replicate (8 * n) 0)) J0) := by
 refine yA (E := E) (fn := Tryz.f31) 14 [.tmp 2, .tmp 3] rfl rfl rfl rfl (by decide) rfl rfl ?_
 have e1 : IntKind.i64.wrap ((n : Int) * 8) = ((8 * n : Nat) : Int) := by rw [IntKind.wrap_i64]; omega
 have e2 : (n : Int) * 8 = ((8 * n : Nat) : Int) := by omega
 have e3 : List.replicate (8 * n) (PV.v (.int .u64 0)) = (List.replicate (8 * n) (0 : Int)).map eU := by simp [eU]
 repeat' (first
  | (with_reducible first | apply zY | apply zT | apply zM | apply zN | apply zO | refine chk_ok (by kernel_rfl) ?_)
  | ((with_reducible first | apply zP | apply zQ | apply zR | apply zL) <;> intro h <;> try (exfalso; first | omega | exact h rfl | (revert h; decide) | (cases h; done)))
  | ((with_reducible show False); omega)
  | ((first | (with_reducible first | apply zW | apply zV | apply zU | apply zS | apply zX | show VX _ _ _ _ _ _ _ | show vstep _ _ _ _ _ | show vskip _ _ _ | show withV _ _) | ((with_reducible show endA _ _ _ _ _ _ _); simp -implicitDefEqProofs only [endA]) | (with_reducible first | refine zB default (by first | omega | (simp only [LN, e1, e2, e3, List.length_replicate]; omega)) (by first | omega | (simp only [LN, e1, e2, e3, List.length_replicate]; omega)) ?_ | refine zC default (by first | omega | (simp only [LN, e1, e2, e3, List.length_replicate]; omega)) ?_ | refine And.intro (by first | decide | omega | assumption | (simp only [LN, e1, e2, e3, List.length_replicate]; omega)) ?_) | (with_reducible first | apply zG | apply zH | apply zI) | ((with_reducible apply zJ); (first | exact dOf6 (List.replicate (8 * n) 0) n (by simp) hn | fail)) | ((with_reducible show pickE _ _ _); first | refine zA _ ⟨by omega, by rfl⟩ ?_ | refine zA _ (by rfl) ?_) | fail); try simp -dsimp -implicitDefEqProofs (maxSteps := 1000000) (disch := first | omega | (simp only [LN, e1, e2, e3, List.length_replicate]; omega)) only [go_sem, e1, e2, e3, List.length_replicate])
  | fail)
 all_goals first | omega | (simp [Dv.fresh, jk]; done)
theorem dOff6 (A : Dv) (J : JT) : ACalls Tryz.prog 21 [.loc 0 0] (dvL A J) (.p (.v (.bool A.off))) (dvL A J) := by
 refine yA (E := E) (fn := Tryz.f21) 11 [.tmp 2] rfl rfl rfl rfl (by decide) rfl rfl ?_
 repeat' (first
  | (with_reducible first | apply zY | apply zT | apply zM | apply zN | apply zO | refine chk_ok (by kernel_rfl) ?_)
  | ((with_reducible first | apply zP | apply zQ | apply zR | apply zL) <;> intro h)
  | ((with_reducible show False); omega)
  | ((first | (with_reducible first | apply zW | apply zV | apply zU | apply zS | apply zX | show VX _ _ _ _ _ _ _ | show vstep _ _ _ _ _ | show vskip _ _ _ | show withV _ _) | ((with_reducible show endA _ _ _ _ _ _ _); simp -implicitDefEqProofs only [endA]) | (with_reducible first | refine zB default (by first | omega | (simp only [LN]; omega)) (by first | omega | (simp only [LN]; omega)) ?_ | refine zC default (by first | omega | (simp only [LN]; omega)) ?_ | refine And.intro (by first | decide | omega | assumption | (simp only [LN]; omega)) ?_) | ((with_reducible show pickE _ _ _); first | refine zA _ ⟨by omega, by rfl⟩ ?_ | refine zA _ (by rfl) ?_) | fail); try simp -dsimp -implicitDefEqProofs (maxSteps := 1000000) (disch := first | omega | (simp only [LN]; omega)) only [go_sem])
  | fail)
def Dv.arm (A : Dv) (n : Int) : Dv := if A.off = true then A else { A with armed := decide (0 ≤ n), left := max n 0 }
theorem dArm6 (A : Dv) (J : JT) (n : Int) : ACalls Tryz.prog 36 [.loc 0 0, .p (.v (.int .i64 n))] (dvL A J) (.p (.tup [])) (dvL (A.arm n) J) := by
 refine yA (E := E) (fn := Tryz.f36) 22 [] rfl rfl rfl rfl (by decide) rfl rfl ?_
 repeat' (first
  | (with_reducible first | apply zY | apply zT | apply zM | apply zN | apply zO | refine chk_ok (by kernel_rfl) ?_)
  | ((with_reducible first | apply zP | apply zQ | apply zR | apply zL) <;> intro h)
  | ((with_reducible show False); omega)
  | ((first | (with_reducible first | apply zW | apply zV | apply zU | apply zS | apply zX | show VX _ _ _ _ _ _ _ | show vstep _ _ _ _ _ | show vskip _ _ _ | show withV _ _) | ((with_reducible show endA _ _ _ _ _ _ _); simp -implicitDefEqProofs only [endA]) | (with_reducible first | refine zB default (by first | omega | (simp only [LN]; omega)) (by first | omega | (simp only [LN]; omega)) ?_ | refine zC default (by first | omega | (simp only [LN]; omega)) ?_ | refine And.intro (by first | decide | omega | assumption | (simp only [LN]; omega)) ?_) | ((with_reducible show pickE _ _ _); first | refine zA _ ⟨by omega, by rfl⟩ ?_ | refine zA _ (by rfl) ?_) | fail); try simp -dsimp -implicitDefEqProofs (maxSteps := 1000000) (disch := first | omega | (simp only [LN]; omega)) only [go_sem])
  | fail)
 all_goals (simp [Dv.arm, h, jk]; first | done)
def Dv.wbB (A : Dv) (r k : Int) : Bool := !A.off && decide ((0 ≤ r ∧ r < A.n) ∧ 0 ≤ k ∧ k ≤ (A.hist r.toNat).length)
def Dv.wb (A : Dv) (r k : Int) : Dv := if A.wbB r k = true then A.persist r.toNat k.toNat else A
def jwb (A : Dv) (J : JT) (r k : Int) : JT := if A.wbB r k = true then jper A J r.toNat k.toNat else J
theorem dWriteBack1 (A : Dv) (J : JT) (h : WF A) (hj : ∀ r, r < 6 → (jk A J r).length ≤ 1000000000) (r k : Nat) (ho : A.off = false) (hr : r < A.n) (hk : k ≤ (A.hist r).length) : ACalls Tryz.prog 35 [.loc 0 0, .p (.v (.int .i64 r)), .p (.v (.int .i64 k))] (dvL A J) (.p (.v (.bool true))) (dv2 (A.persist r k) (jper A J r k)) := by
 refine yA (E := E) (fn := Tryz.f35) 47 [.tmp 6] rfl rfl rfl rfl (by decide) rfl rfl ?_
 have h6 := h.n6
 have hl := h.len r (by omega)
 have kp := dPersist A J h r k hr hk (hj r (by omega))
 repeat' (first
  | (with_reducible first | apply zY | apply zT | apply zM | apply zN | apply zO | refine chk_ok (by kernel_rfl) ?_)
  | ((with_reducible first | apply zP | apply zQ | apply zR | apply zL) <;> intro h <;> try (exfalso; first | omega | exact h rfl | (revert h; decide) | (cases h; done)))
  | ((with_reducible show False); omega)
  | ((first | (with_reducible first | apply zW | apply zV | apply zU | apply zS | apply zX | show VX _ _ _ _ _ _ _ | show vstep _ _ _ _ _ | show vskip _ _ _ | show withV _ _) | ((with_reducible show endA _ _ _ _ _ _ _); simp -implicitDefEqProofs only [endA]) | (with_reducible first | refine zB default (by first | omega | (simp only [LN]; omega)) (by first | omega | (simp only [LN]; omega)) ?_ | refine zC default (by first | omega | (simp only [LN]; omega)) ?_ | refine And.intro (by first | decide | omega | assumption | (simp only [LN]; omega)) ?_) | (with_reducible first | apply zG | apply zH | apply zI) | ((with_reducible apply zJ); (first | exact kp | fail)) | ((with_reducible show pickE _ _ _); first | refine zA _ ⟨by omega, by rfl⟩ ?_ | refine zA _ (by rfl) ?_) | fail); try simp -dsimp -implicitDefEqProofs (maxSteps := 1000000) (disch := first | omega | (simp only [LN]; omega)) only [go_sem])
  | fail)
 all_goals first | omega | (exfalso; simp_all; done)
theorem dWriteBack0 (A : Dv) (J : JT) (h : WF A) (r k : Int) (hb : A.wbB r k = false) : ACalls Tryz.prog 35 [.loc 0 0, .p (.v (.int .i64 r)), .p (.v (.int .i64 k))] (dvL A J) (.p (.v (.bool false))) (dv2 A J) := by
 refine yA (E := E) (fn := Tryz.f35) 47 [.tmp 6] rfl rfl rfl rfl (by decide) rfl rfl ?_
 have h6 := h.n6
 have hl := h.len r.toNat
 simp only [Dv.wbB, Bool.and_eq_false_iff, Bool.not_eq_false', decide_eq_false_iff_not] at hb
 rcases hb with hb | hb
 ·repeat' (first
   | (with_reducible first | apply zY | apply zT | apply zM | apply zN | apply zO | refine chk_ok (by kernel_rfl) ?_)
   | ((with_reducible first | apply zP | apply zQ | apply zR | apply zL) <;> intro h <;> try (exfalso; first | omega | exact h rfl | (revert h; decide) | (cases h; done)))
   | ((with_reducible show False); omega)
   | ((first | (with_reducible first | apply zW | apply zV | apply zU | apply zS | apply zX | show VX _ _ _ _ _ _ _ | show vstep _ _ _ _ _ | show vskip _ _ _ | show withV _ _) | ((with_reducible show endA _ _ _ _ _ _ _); simp -implicitDefEqProofs only [endA]) | (with_reducible first | refine zB default (by first | omega | (simp only [LN]; omega)) (by first | omega | (simp only [LN]; omega)) ?_ | refine zC default (by first | omega | (simp only [LN]; omega)) ?_ | refine And.intro (by first | decide | omega | assumption | (simp only [LN]; omega)) ?_) | ((with_reducible show pickE _ _ _); first | refine zA _ ⟨by omega, by rfl⟩ ?_ | refine zA _ (by rfl) ?_) | fail); try simp -dsimp -implicitDefEqProofs (maxSteps := 1000000) (disch := first | omega | (simp only [LN]; omega)) only [go_sem])
   | fail)
  all_goals first | omega | (exfalso; simp_all; done)
 ·repeat' (first
   | (with_reducible first | apply zY | apply zT | apply zM | apply zN | apply zO | refine chk_ok (by kernel_rfl) ?_)
   | ((with_reducible first | apply zP | apply zQ | apply zR | apply zL) <;> intro h <;> try (exfalso; first | omega | exact h rfl | (revert h; decide) | (cases h; done)))
   | ((with_reducible show False); omega)
   | ((first | (with_reducible first | apply zW | apply zV | apply zU | apply zS | apply zX | show VX _ _ _ _ _ _ _ | show vstep _ _ _ _ _ | show vskip _ _ _ | show withV _ _) | ((with_reducible show endA _ _ _ _ _ _ _); simp -implicitDefEqProofs only [endA]) | (with_reducible first | refine zB default (by first | omega | (simp only [LN]; omega)) (by first | omega | (simp only [LN]; omega)) ?_ | refine zC default (by first | omega | (simp only [LN]; omega)) ?_ | refine And.intro (by first | decide | omega | assumption | (simp only [LN]; omega)) ?_) | ((with_reducible show pickE _ _ _); first | refine zA _ ⟨by omega, by rfl⟩ ?_ | refine zA _ (by rfl) ?_) | fail); try simp -dsimp -implicitDefEqProofs (maxSteps := 1000000) (disch := first | omega | (simp only [LN]; omega)) only [go_sem])
   | fail)
  all_goals first | (exfalso; omega)
theorem dWriteBack6 (A : Dv) (J : JT) (h : WF A) (hj : ∀ r, r < 6 → (jk A J r).length ≤ 1000000000) (r k : Int) : ACalls Tryz.prog 35 [.loc 0 0, .p (.v (.int .i64 r)), .p (.v (.int .i64 k))] (dvL A J) (.p (.v (.bool (A.wbB r k)))) (dv2 (A.wb r k) (jwb A J r k)) := by
 unfold Dv.wb jwb
 cases hb : A.wbB r k with
 | false =>
  have := dWriteBack0 A J h r k hb
  simpa using this
 | true =>
  have hb2 := hb
  simp only [Dv.wbB, Bool.and_eq_true, Bool.not_eq_true', decide_eq_true_eq] at hb2
  have := dWriteBack1 A J h hj r.toNat k.toNat hb2.1 (by omega) (by omega)
  rw [show ((r.toNat : Nat) : Int) = r by omega, show ((k.toNat : Nat) : Int) = k by omega] at this
  simpa using this
def Dv.casB (A : Dv) (o w : Int) : Bool := A.cntB (A.isW o) && decide (A.cur.getD (o / 8).toNat 0 = w)
def Dv.cas (A : Dv) (k : Nat) (o w v : Int) : Dv := if A.casB o w = true then (A.cnt k (A.isW o)).put (o / 64).toNat o v else A.cnt k (A.isW o)
def jcas (A : Dv) (J : JT) (k : Nat) (o w : Int) (g : Bool) : JT := if A.casB o w = true then jput (A.cnt k (A.isW o)) J (o / 64).toNat g else J
theorem tCAS6 (A : Dv) (J : JT) (k : Nat) (hk : k < 8) (h : WF A) (hj : ∀ r, r < 6 → (jk A J r).length ≤ 1000000000) (o w v : Int) (ho : 0 ≤ o ∧ o ≤ 18446744073709551615) (hv : 0 ≤ v ∧ v ≤ 18446744073709551615) : ACallsX Tryz.prog 40 [.loc (4 + k) 0, .p (.v (.int .u64 o)), .p (.v (.int .u64 w)), .p (.v (.int .u64 v))] (dvL A J) (fun g : Bool => .p (.v (.bool (A.casB o w)))) (fun g : Bool => (dv2 (A.cas k o w v) (jcas A J k o w g))) := by
 refine yC (E := E) (fn := Tryz.f40) 43 [.tmp 8] rfl rfl rfl rfl (by decide) rfl (fun _ => rfl) ?_
 have h6 := h.n6
 have hcu := h.cur
 have kw := tWord A J k hk h.n6 o ho
 have kc := tCnt A J k hk (A.isW o)
 have ecu := (cnt_p A k (A.isW o)).2.2.1
 by_cases hc : A.cntB (A.isW o) = true
 ·obtain ⟨h1, h2, h3⟩ := isW_of (cntB_of hc) ho.1
  have e1 : IntKind.u64.wrap (o.tdiv 8) = o / 8 := by rw [Int.tdiv_eq_ediv_of_nonneg (by omega), IntKind.wrap_u64]; omega
  have e2 : o.tdiv 8 = o / 8 := Int.tdiv_eq_ediv_of_nonneg (by omega)
  have e3 : IntKind.u64.wrap (o / 8) = o / 8 := by rw [IntKind.wrap_u64]; omega
  have ecn := (cnt_p A k (A.isW o)).1
  have hcl : (A.cnt k (A.isW o)).cur.length = 8 * A.n := by rw [ecu]; exact hcu
  rw [hc] at kc
  by_cases hw : A.cur.getD (o / 8).toNat 0 = w
  ·have hb : A.casB o w = true := by unfold Dv.casB; rw [hc, decide_eq_true hw]; rfl
   have kp := tWrite (A.cnt k (A.isW o)) J k hk (h.cnt _ _) (o / 64).toNat (by rw [(cnt_p A k _).1]; exact h1) (by rw [jk_cnt]; exact hj _ (by omega)) o v ⟨h2, h3⟩ hv
   have es : ∀ g, jcas A J k o w g = jput (A.cnt k (A.isW o)) J (o / 64).toNat g := fun g => if_pos hb
   rw [show A.cas k o w v = (A.cnt k (A.isW o)).put (o / 64).toNat o v from if_pos hb, hb]
   have hw2 : (A.cnt k (A.isW o)).cur.getD (o / 8).toNat default = w := by rw [ecu]; exact hw
   repeat' (first
    | (with_reducible first | apply zY | apply zT | apply zM | apply zN | apply zO | refine chk_ok (by kernel_rfl) ?_)
    | ((with_reducible first | apply zP | apply zQ | apply zR | apply zL) <;> intro h <;> try (exfalso; first | omega | exact h rfl | (revert h; decide) | (cases h; done)))
    | ((with_reducible show False); omega)
    | ((with_reducible first | refine r_gr0 [87] (by with_unfolding_all exact rfl) ?_ | refine r_gr1 [87] (by with_unfolding_all exact rfl) ?_ | refine r_gr2 [87] (by with_unfolding_all exact rfl) ?_ | refine r_gr3 [87] (by with_unfolding_all exact rfl) ?_ | refine r_gr4 [87] (by with_unfolding_all exact rfl) ?_ | refine r_gr5 [87] (by with_unfolding_all exact rfl) ?_ | refine r_gr6 [87] (by with_unfolding_all exact rfl) ?_ | refine r_gr7 [87] (by with_unfolding_all exact rfl) ?_ | refine r_gr8 [87] (by with_unfolding_all exact rfl) ?_ | refine r_gr9 [87] (by with_unfolding_all exact rfl) ?_ | refine r_gr10 [87] (by with_unfolding_all exact rfl) ?_); simp -dsimp -implicitDefEqProofs (maxSteps := 1000000) (disch := first | omega | (simp only [LN, hcl, e1, e2, e3, hw2]; omega)) only [go_sem, hcl, e1, e2, e3, hw2])
    | ((first | (with_reducible first | apply zW | apply zV | apply zU | apply zS | apply zX | show VX _ _ _ _ _ _ _ | show vstep _ _ _ _ _ | show vskip _ _ _ | show withV _ _) | ((with_reducible show endA _ _ _ _ _ _ _); simp -implicitDefEqProofs only [endA]) | (with_reducible first | refine zB default (by first | omega | (simp only [LN, hcl, e1, e2, e3, hw2]; omega)) (by first | omega | (simp only [LN, hcl, e1, e2, e3, hw2]; omega)) ?_ | refine zC default (by first | omega | (simp only [LN, hcl, e1, e2, e3, hw2]; omega)) ?_ | refine And.intro (by first | decide | omega | assumption | (simp only [LN, hcl, e1, e2, e3, hw2]; omega)) ?_) | (with_reducible first | apply zG | apply zH | apply zI) | ((with_reducible apply zJ); (first | exact kw | exact kc | fail)) | ((with_reducible apply zK); (first | exact kp | fail); intro gq) | ((with_reducible show pickE _ _ _); first | refine zA _ ⟨by omega, by rfl⟩ ?_ | refine zA _ (by rfl) ?_) | fail); try simp -dsimp -implicitDefEqProofs (maxSteps := 1000000) (disch := first | omega | (simp only [LN, hcl, e1, e2, e3, hw2]; omega)) only [go_sem, hcl, e1, e2, e3, hw2])
    | fail)
   all_goals first | omega | ((refine endX_i (gq) ?_; simp -implicitDefEqProofs only [endA]; (simp -dsimp -implicitDefEqProofs (maxSteps := 1000000) (disch := first | omega | (simp only [LN, es]; omega)) only [go_sem, es]; try trivial)); done)
  ·have hb : A.casB o w = false := by unfold Dv.casB; rw [hc, decide_eq_false hw]; rfl
   have es : ∀ g, jcas A J k o w g = J := fun g => by unfold jcas; rw [hb]; rfl
   rw [show A.cas k o w v = A.cnt k (A.isW o) from by unfold Dv.cas; rw [hb]; rfl, hb]
   have hw2 : ¬ (A.cnt k (A.isW o)).cur.getD (o / 8).toNat default = w := by rw [ecu]; exact hw
   repeat' (first
    | (with_reducible first | apply zY | apply zT | apply zM | apply zN | apply zO | refine chk_ok (by kernel_rfl) ?_)
    | ((with_reducible first | apply zP | apply zQ | apply zR | apply zL) <;> intro h <;> try (exfalso; first | omega | exact h rfl | (revert h; decide) | (cases h; done)))
    | ((with_reducible show False); omega)
    | ((first | (with_reducible first | apply zW | apply zV | apply zU | apply zS | apply zX | show VX _ _ _ _ _ _ _ | show vstep _ _ _ _ _ | show vskip _ _ _ | show withV _ _) | ((with_reducible show endA _ _ _ _ _ _ _); simp -implicitDefEqProofs only [endA]) | (with_reducible first | refine zB default (by first | omega | (simp only [LN, hcl, e1, e2, e3, hw2]; omega)) (by first | omega | (simp only [LN, hcl, e1, e2, e3, hw2]; omega)) ?_ | refine zC default (by first | omega | (simp only [LN, hcl, e1, e2, e3, hw2]; omega)) ?_ | refine And.intro (by first | decide | omega | assumption | (simp only [LN, hcl, e1, e2, e3, hw2]; omega)) ?_) | (with_reducible first | apply zG | apply zH | apply zI) | ((with_reducible apply zJ); (first | exact kw | exact kc | fail)) | ((with_reducible show pickE _ _ _); first | refine zA _ ⟨by omega, by rfl⟩ ?_ | refine zA _ (by rfl) ?_) | fail); try simp -dsimp -implicitDefEqProofs (maxSteps := 1000000) (disch := first | omega | (simp only [LN, hcl, e1, e2, e3, hw2]; omega)) only [go_sem, hcl, e1, e2, e3, hw2])
    | fail)
   all_goals first | omega | (exfalso; omega) | ((refine endX_i (true) ?_; simp -implicitDefEqProofs only [endA]; (simp -dsimp -implicitDefEqProofs (maxSteps := 1000000) (disch := first | omega | (simp only [LN, es]; omega)) only [go_sem, es]; try trivial)); done)
 ·simp only [Bool.not_eq_true] at hc
  rw [hc] at kc
  have hb : A.casB o w = false := by unfold Dv.casB; rw [hc]; rfl
  have es : ∀ g, jcas A J k o w g = J := fun g => by unfold jcas; rw [hb]; rfl
  rw [show A.cas k o w v = A.cnt k (A.isW o) from by unfold Dv.cas; rw [hb]; rfl, hb]
  repeat' (first
   | (with_reducible first | apply zY | apply zT | apply zM | apply zN | apply zO | refine chk_ok (by kernel_rfl) ?_)
   | ((with_reducible first | apply zP | apply zQ | apply zR | apply zL) <;> intro h <;> try (exfalso; first | omega | exact h rfl | (revert h; decide) | (cases h; done)))
   | ((with_reducible show False); omega)
   | ((first | (with_reducible first | apply zW | apply zV | apply zU | apply zS | apply zX | show VX _ _ _ _ _ _ _ | show vstep _ _ _ _ _ | show vskip _ _ _ | show withV _ _) | ((with_reducible show endA _ _ _ _ _ _ _); simp -implicitDefEqProofs only [endA]) | (with_reducible first | refine zB default (by first | omega | (simp only [LN]; omega)) (by first | omega | (simp only [LN]; omega)) ?_ | refine zC default (by first | omega | (simp only [LN]; omega)) ?_ | refine And.intro (by first | decide | omega | assumption | (simp only [LN]; omega)) ?_) | (with_reducible first | apply zG | apply zH | apply zI) | ((with_reducible apply zJ); (first | exact kw | exact kc | fail)) | ((with_reducible show pickE _ _ _); first | refine zA _ ⟨by omega, by rfl⟩ ?_ | refine zA _ (by rfl) ?_) | fail); try simp -dsimp -implicitDefEqProofs (maxSteps := 1000000) (disch := first | omega | (simp only [LN]; omega)) only [go_sem])
   | fail)
  all_goals first | omega | ((refine endX_i (true) ?_; simp -implicitDefEqProofs only [endA]; (simp -dsimp -implicitDefEqProofs (maxSteps := 1000000) (disch := first | omega | (simp only [LN, es]; omega)) only [go_sem, es]; try trivial)); done)
end Go.Proofs.YtckhjklcfagkoaaGreatDoor
