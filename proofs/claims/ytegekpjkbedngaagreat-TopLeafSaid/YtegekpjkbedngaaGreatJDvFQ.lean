/- Contracts of functions of this program, and the plain facts that they rest on. No conditions. -/
import Derived.Test.YtegekpjkbedngaaGreatJDvAQ
import Derived.Test.YtegekpjkbedngaaGreatJDvQQ
import Derived.Test.YtegekpjkbedngaaGreatEnv2
import Derived.Test.YtegekpjkbedngaaGreatAc4
set_option linter.unusedSectionVars false
set_option linter.unusedSimpArgs false
set_option linter.unusedVariables false
namespace Go.Proofs.YtegekpjkbedngaaGreat
set_option maxHeartbeats 4000000
set_option maxRecDepth 100000
open Go Go.Ab
attribute [local irreducible] callK callF loopQ vstep vskip pickE hideP
attribute [local go_sem] deO peO cuO liO thO hiO noO
theorem tWrite (A : Dv) (J : JT) (k : Nat) (hk : k < 8) (h : WF A) (r : Nat) (hr : r < A.n) (hj : (jk A J r).length ≤ 1000000000) (o v : Int) (ho : o / 64 = r ∧ o % 8 = 0) (hv : 0 ≤ v ∧ v ≤ 18446744073709551615) : ACallsX Tryz.prog 117 [.loc (4 + k) 0, .p (.v (.int .u64 o)), .p (.v (.int .u64 v))] [deO A 1 2 3 4, peO A, cuO A, liO A J 12, thO A 0 0 20, thO A 1 0 20, thO A 2 0 20, thO A 3 0 20, thO A 4 0 20, thO A 5 0 20, thO A 6 0 20, thO A 7 0 20, hiO A J 0, hiO A J 1, hiO A J 2, hiO A J 3, hiO A J 4, hiO A J 5, hiO A J 6, hiO A J 7, noO A 0, noO A 1, noO A 2, noO A 3, noO A 4, noO A 5, noO A 6, noO A 7] (fun g : Bool => .p (.tup [])) (fun g : Bool => [deO (A.put r o v) 1 2 3 4, peO (A.put r o v), cuO (A.put r o v), liO (A.put r o v) (jput A J r g) 28, thO (A.put r o v) 0 0 20, thO (A.put r o v) 1 0 20, thO (A.put r o v) 2 0 20, thO (A.put r o v) 3 0 20, thO (A.put r o v) 4 0 20, thO (A.put r o v) 5 0 20, thO (A.put r o v) 6 0 20, thO (A.put r o v) 7 0 20, .dead, .dead, .dead, .dead, .dead, .dead, .dead, .dead, noO (A.put r o v) 0, noO (A.put r o v) 1, noO (A.put r o v) 2, noO (A.put r o v) 3, noO (A.put r o v) 4, noO (A.put r o v) 5, noO (A.put r o v) 6, noO (A.put r o v) 7, hiO (A.put r o v) (jput A J r g) 0, hiO (A.put r o v) (jput A J r g) 1, hiO (A.put r o v) (jput A J r g) 2, hiO (A.put r o v) (jput A J r g) 3, hiO (A.put r o v) (jput A J r g) 4, hiO (A.put r o v) (jput A J r g) 5, hiO (A.put r o v) (jput A J r g) 6, hiO (A.put r o v) (jput A J r g) 7]) := by
 refine yC (E := E) (fn := Tryz.f117) 40 [] rfl rfl rfl rfl (by decide) rfl (fun _ => rfl) ?_
 have h6 := h.n6
 have hc := h.cur
 have hl := h.len r (by omega)
 have e2 : IntKind.u64.wrap (o.tdiv 8) = o / 8 := by rw [Int.tdiv_eq_ediv_of_nonneg (by omega), IntKind.wrap_u64]; omega
 have e1 : IntKind.u64.wrap (o.tdiv 64) = o / 64 := by rw [Int.tdiv_eq_ediv_of_nonneg (by omega), IntKind.wrap_u64]; omega
 obtain ⟨ho1, ho2⟩ := ho
 have hd := drop_row (jk A J r) (A.hist r)
 have hs : r = 0 ∧ o / 64 = 0 ∨ r = 1 ∧ o / 64 = 1 ∨ r = 2 ∧ o / 64 = 2 ∨ r = 3 ∧ o / 64 = 3 ∨ r = 4 ∧ o / 64 = 4 ∨ r = 5 ∧ o / 64 = 5 ∨ r = 6 ∧ o / 64 = 6 ∨ r = 7 ∧ o / 64 = 7 := by omega
 rcases hs with ⟨rfl, e3⟩ | ⟨rfl, e3⟩ | ⟨rfl, e3⟩ | ⟨rfl, e3⟩ | ⟨rfl, e3⟩ | ⟨rfl, e3⟩ | ⟨rfl, e3⟩ | ⟨rfl, e3⟩
 all_goals
  repeat' (first
   | (with_reducible first | apply zY | apply zT | apply zM | apply zN | apply zO | refine chk_ok (by kernel_rfl) ?_)
   | ((with_reducible first | apply zP | apply zQ | apply zR | apply zL) <;> intro h <;> try (exfalso; first | omega | exact h rfl | (revert h; decide) | (cases h; done)))
   | ((with_reducible show False); omega)
   | ((with_reducible first | refine r_gr0 [0] (by with_unfolding_all exact rfl) ?_ | refine r_gr1 [0] (by with_unfolding_all exact rfl) ?_ | refine r_gr2 [0] (by with_unfolding_all exact rfl) ?_ | refine r_gr3 [0] (by with_unfolding_all exact rfl) ?_ | refine r_gr4 [0] (by with_unfolding_all exact rfl) ?_ | refine r_gr5 [0] (by with_unfolding_all exact rfl) ?_ | refine r_gr6 [0] (by with_unfolding_all exact rfl) ?_ | refine r_gr7 [0] (by with_unfolding_all exact rfl) ?_ | refine r_gr8 [0] (by with_unfolding_all exact rfl) ?_ | refine r_gr9 [0] (by with_unfolding_all exact rfl) ?_ | refine r_gr10 [0] (by with_unfolding_all exact rfl) ?_); simp -dsimp -implicitDefEqProofs (maxSteps := 1000000) (disch := first | omega | (simp only [LN, e1, e2, e3, hc, hd]; omega)) only [go_sem, e1, e2, e3, hc, hd])
   | ((first | (with_reducible first | apply zW | apply zV | apply zU | apply zS | apply zX | show VX _ _ _ _ _ _ _ | show vstep _ _ _ _ _ | show vskip _ _ _ | show withV _ _) | ((with_reducible show endA _ _ _ _ _ _ _); simp -implicitDefEqProofs only [endA]) | (with_reducible first | refine zB default (by first | omega | (simp only [LN, e1, e2, e3, hc, hd]; omega)) (by first | omega | (simp only [LN, e1, e2, e3, hc, hd]; omega)) ?_ | refine zC default (by first | omega | (simp only [LN, e1, e2, e3, hc, hd]; omega)) ?_ | refine And.intro (by first | decide | omega | assumption | (simp only [LN, e1, e2, e3, hc, hd]; omega)) ?_ | refine And.intro ?_ ?_) | ((with_reducible show pickE _ _ _); first | refine zA _ ⟨by omega, by rfl⟩ ?_ | refine zA _ (by rfl) ?_) | fail); try simp -dsimp -implicitDefEqProofs (maxSteps := 1000000) (disch := first | omega | (simp only [LN, e1, e2, e3, hc, hd]; omega)) only [go_sem, e1, e2, e3, hc, hd])
   | fail)
  ·(refine endX_i (true) ?_; simp -implicitDefEqProofs only [endA]; (simp -dsimp -implicitDefEqProofs (maxSteps := 1000000) (disch := first | omega | (simp only [LN, jk_put, put_hist, put_p]; omega)) only [go_sem, jk_put, put_hist, put_p]; try trivial))
   simp [List.map_set, eU, eWr]
  ·(refine endX_i (false) ?_; simp -implicitDefEqProofs only [endA]; (simp -dsimp -implicitDefEqProofs (maxSteps := 1000000) (disch := first | omega | (simp only [LN, jk_put, put_hist, put_p]; omega)) only [go_sem, jk_put, put_hist, put_p]; try trivial))
   simp [List.map_set, eU, eWr]
end Go.Proofs.YtegekpjkbedngaaGreat
namespace Go.Proofs.YtegekpjkbedngaaGreat
set_option maxHeartbeats 4000000
set_option maxRecDepth 100000
open Go Go.Ab
attribute [local irreducible] callK callF loopQ vstep vskip pickE hideP
attribute [local go_sem] deO peO cuO liO thO hiO noO
theorem tStore (A : Dv) (J : JT) (k : Nat) (hk : k < 8) (h : WF A) (hj : ∀ r, r < 8 → (jk A J r).length ≤ 1000000000) (o v : Int) (ho : 0 ≤ o ∧ o ≤ 18446744073709551615) (hv : 0 ≤ v ∧ v ≤ 18446744073709551615) : ACallsX Tryz.prog 112 [.loc (4 + k) 0, .p (.v (.int .u64 o)), .p (.v (.int .u64 v))] [deO A 1 2 3 4, peO A, cuO A, liO A J 12, thO A 0 0 20, thO A 1 0 20, thO A 2 0 20, thO A 3 0 20, thO A 4 0 20, thO A 5 0 20, thO A 6 0 20, thO A 7 0 20, hiO A J 0, hiO A J 1, hiO A J 2, hiO A J 3, hiO A J 4, hiO A J 5, hiO A J 6, hiO A J 7, noO A 0, noO A 1, noO A 2, noO A 3, noO A 4, noO A 5, noO A 6, noO A 7] (fun g : Bool => .p (.tup [])) (fun g : Bool => [deO (A.store k o v) 1 2 3 4, peO (A.store k o v), cuO (A.store k o v), liO (A.store k o v) (jsto A J k o g) 28, thO (A.store k o v) 0 0 20, thO (A.store k o v) 1 0 20, thO (A.store k o v) 2 0 20, thO (A.store k o v) 3 0 20, thO (A.store k o v) 4 0 20, thO (A.store k o v) 5 0 20, thO (A.store k o v) 6 0 20, thO (A.store k o v) 7 0 20, .dead, .dead, .dead, .dead, .dead, .dead, .dead, .dead, noO (A.store k o v) 0, noO (A.store k o v) 1, noO (A.store k o v) 2, noO (A.store k o v) 3, noO (A.store k o v) 4, noO (A.store k o v) 5, noO (A.store k o v) 6, noO (A.store k o v) 7, hiO (A.store k o v) (jsto A J k o g) 0, hiO (A.store k o v) (jsto A J k o g) 1, hiO (A.store k o v) (jsto A J k o g) 2, hiO (A.store k o v) (jsto A J k o g) 3, hiO (A.store k o v) (jsto A J k o g) 4, hiO (A.store k o v) (jsto A J k o g) 5, hiO (A.store k o v) (jsto A J k o g) 6, hiO (A.store k o v) (jsto A J k o g) 7]) := by
 refine yC (E := E) (fn := Tryz.f112) 27 [] rfl rfl rfl rfl (by decide) rfl (fun _ => rfl) ?_
 have h6 := h.n6
 have kw := tWord A J k hk h.n6 o ho
 have kc := tCnt A J k hk (A.isW o)
 by_cases hc : A.cntB (A.isW o) = true
 ·obtain ⟨h1, h2, h3⟩ := isW_of (cntB_of hc) ho.1
  rw [hc] at kc
  have kp := tWrite (A.cnt k (A.isW o)) J k hk (h.cnt _ _) (o / 64).toNat (by rw [(cnt_p A k _).1]; exact h1) (by rw [jk_cnt]; exact hj _ (by omega)) o v ⟨h2, h3⟩ hv
  have es : ∀ g, jsto A J k o g = jput (A.cnt k (A.isW o)) J (o / 64).toNat g := fun g => if_pos hc
  rw [show A.store k o v = (A.cnt k (A.isW o)).put (o / 64).toNat o v from if_pos hc]
  repeat' (first
   | (with_reducible first | apply zY | apply zT | apply zM | apply zN | apply zO | refine chk_ok (by kernel_rfl) ?_)
   | ((with_reducible first | apply zP | apply zQ | apply zR | apply zL) <;> intro h <;> try (exfalso; first | omega | exact h rfl | (revert h; decide) | (cases h; done)))
   | ((with_reducible show False); omega)
   | ((with_reducible first | refine r_gr0 [118] (by with_unfolding_all exact rfl) ?_ | refine r_gr1 [118] (by with_unfolding_all exact rfl) ?_ | refine r_gr2 [118] (by with_unfolding_all exact rfl) ?_ | refine r_gr3 [118] (by with_unfolding_all exact rfl) ?_ | refine r_gr4 [118] (by with_unfolding_all exact rfl) ?_ | refine r_gr5 [118] (by with_unfolding_all exact rfl) ?_ | refine r_gr6 [118] (by with_unfolding_all exact rfl) ?_ | refine r_gr7 [118] (by with_unfolding_all exact rfl) ?_ | refine r_gr8 [118] (by with_unfolding_all exact rfl) ?_ | refine r_gr9 [118] (by with_unfolding_all exact rfl) ?_ | refine r_gr10 [118] (by with_unfolding_all exact rfl) ?_); simp -dsimp -implicitDefEqProofs (maxSteps := 1000000) (disch := first | omega | (simp only [LN]; omega)) only [go_sem])
   | ((first | (with_reducible first | apply zW | apply zV | apply zU | apply zS | apply zX | show VX _ _ _ _ _ _ _ | show vstep _ _ _ _ _ | show vskip _ _ _ | show withV _ _) | ((with_reducible show endA _ _ _ _ _ _ _); simp -implicitDefEqProofs only [endA]) | (with_reducible first | refine zB default (by first | omega | (simp only [LN]; omega)) (by first | omega | (simp only [LN]; omega)) ?_ | refine zC default (by first | omega | (simp only [LN]; omega)) ?_ | refine And.intro (by first | decide | omega | assumption | (simp only [LN]; omega)) ?_) | (with_reducible first | apply zG | apply zH | apply zI | apply hidePI_own) | ((with_reducible apply zJ); (first | exact kw | exact kc | fail)) | ((with_reducible apply zK); (first | exact kp | fail); intro gq) | ((with_reducible show pickE _ _ _); first | refine zA _ ⟨by omega, by rfl⟩ ?_ | refine zA _ (by rfl) ?_) | fail); try simp -dsimp -implicitDefEqProofs (maxSteps := 1000000) (disch := first | omega | (simp only [LN]; omega)) only [go_sem])
   | fail)
  (refine endX_i (gq) ?_; simp -implicitDefEqProofs only [endA]; (simp -dsimp -implicitDefEqProofs (maxSteps := 1000000) (disch := first | omega | (simp only [LN, es]; omega)) only [go_sem, es]; try trivial))
 ·simp only [Bool.not_eq_true] at hc
  rw [hc] at kc
  rw [show A.store k o v = A.cnt k (A.isW o) from by unfold Dv.store; rw [hc]; rfl]
  have es : ∀ g, jsto A J k o g = J := fun g => by unfold jsto; rw [hc]; rfl
  repeat' (first
   | (with_reducible first | apply zY | apply zT | apply zM | apply zN | apply zO | refine chk_ok (by kernel_rfl) ?_)
   | ((with_reducible first | apply zP | apply zQ | apply zR | apply zL) <;> intro h <;> try (exfalso; first | omega | exact h rfl | (revert h; decide) | (cases h; done)))
   | ((with_reducible show False); omega)
   | ((first | (with_reducible first | apply zW | apply zV | apply zU | apply zS | apply zX | show VX _ _ _ _ _ _ _ | show vstep _ _ _ _ _ | show vskip _ _ _ | show withV _ _) | ((with_reducible show endA _ _ _ _ _ _ _); simp -implicitDefEqProofs only [endA]) | (with_reducible first | refine zB default (by first | omega | (simp only [LN]; omega)) (by first | omega | (simp only [LN]; omega)) ?_ | refine zC default (by first | omega | (simp only [LN]; omega)) ?_ | refine And.intro (by first | decide | omega | assumption | (simp only [LN]; omega)) ?_) | (with_reducible first | apply zG | apply zH | apply zI | apply hidePI_own) | ((with_reducible apply zJ); (first | exact kw | exact kc | fail)) | ((with_reducible show pickE _ _ _); first | refine zA _ ⟨by omega, by rfl⟩ ?_ | refine zA _ (by rfl) ?_) | fail); try simp -dsimp -implicitDefEqProofs (maxSteps := 1000000) (disch := first | omega | (simp only [LN]; omega)) only [go_sem])
   | fail)
  (refine endX_i (true) ?_; simp -implicitDefEqProofs only [endA]; (simp -dsimp -implicitDefEqProofs (maxSteps := 1000000) (disch := first | omega | (simp only [LN, es]; omega)) only [go_sem, es]; try trivial))
end Go.Proofs.YtegekpjkbedngaaGreat
namespace Go.Proofs.YtegekpjkbedngaaGreat
set_option maxHeartbeats 4000000
set_option maxRecDepth 100000
open Go Go.Ab
attribute [local irreducible] callK callF loopQ vstep vskip pickE hideP
attribute [local go_sem] eU deO peO cuO liO thO hiO noO
theorem dNew6 (n : Nat) (hn : 0 < n ∧ n ≤ 8) : ACalls Tryz.prog 4 [.p (.v (.int .i64 n))] [] (.tup [.loc 0 0, .p (.v (.int .i64 0))]) [deO (Dv.fresh n (List.replicate (8 * n) 0)) 1 2 3 4, peO (Dv.fresh n (List.replicate (8 * n) 0)), cuO (Dv.fresh n (List.replicate (8 * n) 0)), liO (Dv.fresh n (List.replicate (8 * n) 0)) J0 12, thO (Dv.fresh n (List.replicate (8 * n) 0)) 0 0 20, thO (Dv.fresh n (List.replicate (8 * n) 0)) 1 0 20, thO (Dv.fresh n (List.replicate (8 * n) 0)) 2 0 20, thO (Dv.fresh n (List.replicate (8 * n) 0)) 3 0 20, thO (Dv.fresh n (List.replicate (8 * n) 0)) 4 0 20, thO (Dv.fresh n (List.replicate (8 * n) 0)) 5 0 20, thO (Dv.fresh n (List.replicate (8 * n) 0)) 6 0 20, thO (Dv.fresh n (List.replicate (8 * n) 0)) 7 0 20, hiO (Dv.fresh n (List.replicate (8 * n) 0)) J0 0, hiO (Dv.fresh n (List.replicate (8 * n) 0)) J0 1, hiO (Dv.fresh n (List.replicate (8 * n) 0)) J0 2, hiO (Dv.fresh n (List.replicate (8 * n) 0)) J0 3, hiO (Dv.fresh n (List.replicate (8 * n) 0)) J0 4, hiO (Dv.fresh n (List.replicate (8 * n) 0)) J0 5, hiO (Dv.fresh n (List.replicate (8 * n) 0)) J0 6, hiO (Dv.fresh n (List.replicate (8 * n) 0)) J0 7, noO (Dv.fresh n (List.replicate (8 * n) 0)) 0, noO (Dv.fresh n (List.replicate (8 * n) 0)) 1, noO (Dv.fresh n (List.replicate (8 * n) 0)) 2, noO (Dv.fresh n (List.replicate (8 * n) 0)) 3, noO (Dv.fresh n (List.replicate (8 * n) 0)) 4, noO (Dv.fresh n (List.replicate (8 * n) 0)) 5, noO (Dv.fresh n (List.replicate (8 * n) 0)) 6, noO (Dv.fresh n (List.replicate (8 * n) 0)) 7] := by
 refine yA (E := E) (fn := Tryz.f4) 14 [.tmp 2, .tmp 3] rfl rfl rfl rfl (by decide) rfl rfl ?_
 have e1 : IntKind.i64.wrap ((n : Int) * 8) = ((8 * n : Nat) : Int) := by rw [IntKind.wrap_i64]; omega
 have e2 : (n : Int) * 8 = ((8 * n : Nat) : Int) := by omega
 have e3 : List.replicate (8 * n) (PV.v (.int .u64 0)) = (List.replicate (8 * n) (0 : Int)).map eU := by simp [eU]
 repeat' (first
  | (with_reducible first | apply zY | apply zT | apply zM | apply zN | apply zO | refine chk_ok (by kernel_rfl) ?_)
  | ((with_reducible first | apply zP | apply zQ | apply zR | apply zL) <;> intro h <;> try (exfalso; first | omega | exact h rfl | (revert h; decide) | (cases h; done)))
  | ((with_reducible show False); omega)
  | ((first | (with_reducible first | apply zW | apply zV | apply zU | apply zS | apply zX | show VX _ _ _ _ _ _ _ | show vstep _ _ _ _ _ | show vskip _ _ _ | show withV _ _) | ((with_reducible show endA _ _ _ _ _ _ _); simp -implicitDefEqProofs only [endA]) | (with_reducible first | refine zB default (by first | omega | (simp only [LN, e1, e2, e3, List.length_replicate]; omega)) (by first | omega | (simp only [LN, e1, e2, e3, List.length_replicate]; omega)) ?_ | refine zC default (by first | omega | (simp only [LN, e1, e2, e3, List.length_replicate]; omega)) ?_ | refine And.intro (by first | decide | omega | assumption | (simp only [LN, e1, e2, e3, List.length_replicate]; omega)) ?_) | (with_reducible first | apply zG | apply zH | apply zI | apply hidePI_own) | ((with_reducible apply zJ); (first | exact dOf6 (List.replicate (8 * n) 0) n (by simp) hn | fail)) | ((with_reducible show pickE _ _ _); first | refine zA _ ⟨by omega, by rfl⟩ ?_ | refine zA _ (by rfl) ?_) | fail); try simp -dsimp -implicitDefEqProofs (maxSteps := 1000000) (disch := first | omega | (simp only [LN, e1, e2, e3, List.length_replicate]; omega)) only [go_sem, e1, e2, e3, List.length_replicate])
  | fail)
 all_goals first | omega | (simp [Dv.fresh, jk]; done)
end Go.Proofs.YtegekpjkbedngaaGreat
namespace Go.Proofs.YtegekpjkbedngaaGreat
set_option maxHeartbeats 4000000
set_option maxRecDepth 100000
open Go Go.Ab
attribute [local irreducible] callK callF loopQ vstep vskip pickE hideP
attribute [local go_sem] eU deO peO cuO liO thO hiO noO
def Dv.load (A : Dv) (o : Int) : Int := if (!A.off && A.isW o) = true then A.cur.getD (o / 8).toNat 0 else 0
theorem tLoad6 (A : Dv) (J : JT) (k : Nat) (hk : k < 8) (h : WF A) (o : Int) (ho : 0 ≤ o ∧ o ≤ 18446744073709551615) : ACalls Tryz.prog 110 [.loc (4 + k) 0, .p (.v (.int .u64 o))] [deO A 1 2 3 4, peO A, cuO A, liO A J 12, thO A 0 0 20, thO A 1 0 20, thO A 2 0 20, thO A 3 0 20, thO A 4 0 20, thO A 5 0 20, thO A 6 0 20, thO A 7 0 20, hiO A J 0, hiO A J 1, hiO A J 2, hiO A J 3, hiO A J 4, hiO A J 5, hiO A J 6, hiO A J 7, noO A 0, noO A 1, noO A 2, noO A 3, noO A 4, noO A 5, noO A 6, noO A 7] (.p (.v (.int .u64 (A.load o)))) [deO (A.onS k (A.isW o)) 1 2 3 4, peO (A.onS k (A.isW o)), cuO (A.onS k (A.isW o)), liO (A.onS k (A.isW o)) J 12, thO (A.onS k (A.isW o)) 0 0 20, thO (A.onS k (A.isW o)) 1 0 20, thO (A.onS k (A.isW o)) 2 0 20, thO (A.onS k (A.isW o)) 3 0 20, thO (A.onS k (A.isW o)) 4 0 20, thO (A.onS k (A.isW o)) 5 0 20, thO (A.onS k (A.isW o)) 6 0 20, thO (A.onS k (A.isW o)) 7 0 20, hiO (A.onS k (A.isW o)) J 0, hiO (A.onS k (A.isW o)) J 1, hiO (A.onS k (A.isW o)) J 2, hiO (A.onS k (A.isW o)) J 3, hiO (A.onS k (A.isW o)) J 4, hiO (A.onS k (A.isW o)) J 5, hiO (A.onS k (A.isW o)) J 6, hiO (A.onS k (A.isW o)) J 7, noO (A.onS k (A.isW o)) 0, noO (A.onS k (A.isW o)) 1, noO (A.onS k (A.isW o)) 2, noO (A.onS k (A.isW o)) 3, noO (A.onS k (A.isW o)) 4, noO (A.onS k (A.isW o)) 5, noO (A.onS k (A.isW o)) 6, noO (A.onS k (A.isW o)) 7] := by
 refine yA (E := E) (fn := Tryz.f110) 33 [.tmp 4] rfl rfl rfl rfl (by decide) rfl rfl ?_
 have h6 := h.n6
 have hc := h.cur
 have kw := tWord A J k hk h.n6 o ho
 by_cases hv : (!A.off && A.isW o) = true
 ·have kn := tOn1 A J k hk _ hv
  have e0 : A.load o = A.cur.getD (o / 8).toNat 0 := if_pos hv
  rw [e0, onS_t hv]
  simp only [Bool.and_eq_true, Bool.not_eq_true'] at hv
  obtain ⟨h1, h2, h3⟩ := isW_of hv.2 ho.1
  have e1 : IntKind.u64.wrap (o.tdiv 8) = o / 8 := by rw [Int.tdiv_eq_ediv_of_nonneg (by omega), IntKind.wrap_u64]; omega
  have e2 : o.tdiv 8 = o / 8 := Int.tdiv_eq_ediv_of_nonneg (by omega)
  have e3 : IntKind.u64.wrap (o / 8) = o / 8 := by rw [IntKind.wrap_u64]; omega
  repeat' (first
   | (with_reducible first | apply zY | apply zT | apply zM | apply zN | apply zO | refine chk_ok (by kernel_rfl) ?_)
   | ((with_reducible first | apply zP | apply zQ | apply zR | apply zL) <;> intro h <;> try (exfalso; first | omega | exact h rfl | (revert h; decide) | (cases h; done)))
   | ((with_reducible show False); omega)
   | ((first | (with_reducible first | apply zW | apply zV | apply zU | apply zS | apply zX | show VX _ _ _ _ _ _ _ | show vstep _ _ _ _ _ | show vskip _ _ _ | show withV _ _) | ((with_reducible show endA _ _ _ _ _ _ _); simp -implicitDefEqProofs only [endA]) | (with_reducible first | refine zB default (by first | omega | (simp only [LN, hc, e1, e2, e3]; omega)) (by first | omega | (simp only [LN, hc, e1, e2, e3]; omega)) ?_ | refine zC default (by first | omega | (simp only [LN, hc, e1, e2, e3]; omega)) ?_ | refine And.intro (by first | decide | omega | assumption | (simp only [LN, hc, e1, e2, e3]; omega)) ?_) | (with_reducible first | apply zG | apply zH | apply zI | apply hidePI_own) | ((with_reducible apply zJ); (first | exact kw | exact kn | fail)) | ((with_reducible show pickE _ _ _); first | refine zA _ ⟨by omega, by rfl⟩ ?_ | refine zA _ (by rfl) ?_) | fail); try simp -dsimp -implicitDefEqProofs (maxSteps := 1000000) (disch := first | omega | (simp only [LN, hc, e1, e2, e3]; omega)) only [go_sem, hc, e1, e2, e3])
   | fail)
  all_goals first | omega | rfl
 ·simp only [Bool.not_eq_true] at hv
  have kn := tOn0 A J k hk _ hv
  have e0 : A.load o = 0 := by unfold Dv.load; rw [hv]; rfl
  rw [e0]
  repeat' (first
   | (with_reducible first | apply zY | apply zT | apply zM | apply zN | apply zO | refine chk_ok (by kernel_rfl) ?_)
   | ((with_reducible first | apply zP | apply zQ | apply zR | apply zL) <;> intro h <;> try (exfalso; first | omega | exact h rfl | (revert h; decide) | (cases h; done)))
   | ((with_reducible show False); omega)
   | ((first | (with_reducible first | apply zW | apply zV | apply zU | apply zS | apply zX | show VX _ _ _ _ _ _ _ | show vstep _ _ _ _ _ | show vskip _ _ _ | show withV _ _) | ((with_reducible show endA _ _ _ _ _ _ _); simp -implicitDefEqProofs only [endA]) | (with_reducible first | refine zB default (by first | omega | (simp only [LN]; omega)) (by first | omega | (simp only [LN]; omega)) ?_ | refine zC default (by first | omega | (simp only [LN]; omega)) ?_ | refine And.intro (by first | decide | omega | assumption | (simp only [LN]; omega)) ?_) | (with_reducible first | apply zG | apply zH | apply zI | apply hidePI_own) | ((with_reducible apply zJ); (first | exact kw | exact kn | fail)) | ((with_reducible show pickE _ _ _); first | refine zA _ ⟨by omega, by rfl⟩ ?_ | refine zA _ (by rfl) ?_) | fail); try simp -dsimp -implicitDefEqProofs (maxSteps := 1000000) (disch := first | omega | (simp only [LN]; omega)) only [go_sem])
   | fail)
  all_goals first | omega | rfl
theorem tErr6 (A : Dv) (J : JT) (k : Nat) (hk : k < 8) : ACalls Tryz.prog 107 [.loc (4 + k) 0] [deO A 1 2 3 4, peO A, cuO A, liO A J 12, thO A 0 0 20, thO A 1 0 20, thO A 2 0 20, thO A 3 0 20, thO A 4 0 20, thO A 5 0 20, thO A 6 0 20, thO A 7 0 20, hiO A J 0, hiO A J 1, hiO A J 2, hiO A J 3, hiO A J 4, hiO A J 5, hiO A J 6, hiO A J 7, noO A 0, noO A 1, noO A 2, noO A 3, noO A 4, noO A 5, noO A 6, noO A 7] (.p (.v (.int .i64 (A.err k)))) [deO A 1 2 3 4, peO A, cuO A, liO A J 12, thO A 0 0 20, thO A 1 0 20, thO A 2 0 20, thO A 3 0 20, thO A 4 0 20, thO A 5 0 20, thO A 6 0 20, thO A 7 0 20, hiO A J 0, hiO A J 1, hiO A J 2, hiO A J 3, hiO A J 4, hiO A J 5, hiO A J 6, hiO A J 7, noO A 0, noO A 1, noO A 2, noO A 3, noO A 4, noO A 5, noO A 6, noO A 7] := by
 refine yA (E := E) (fn := Tryz.f107) 16 [.tmp 2] rfl rfl rfl rfl (by decide) rfl rfl ?_
 repeat' (first
  | (with_reducible first | apply zY | apply zT | apply zM | apply zN | apply zO | refine chk_ok (by kernel_rfl) ?_)
  | ((with_reducible first | apply zP | apply zQ | apply zR | apply zL) <;> intro h)
  | ((with_reducible show False); omega)
  | ((first | (with_reducible first | apply zW | apply zV | apply zU | apply zS | apply zX | show VX _ _ _ _ _ _ _ | show vstep _ _ _ _ _ | show vskip _ _ _ | show withV _ _) | ((with_reducible show endA _ _ _ _ _ _ _); simp -implicitDefEqProofs only [endA]) | (with_reducible first | refine zB default (by first | omega | (simp only [LN]; omega)) (by first | omega | (simp only [LN]; omega)) ?_ | refine zC default (by first | omega | (simp only [LN]; omega)) ?_ | refine And.intro (by first | decide | omega | assumption | (simp only [LN]; omega)) ?_) | ((with_reducible show pickE _ _ _); first | refine zA _ ⟨by omega, by rfl⟩ ?_ | refine zA _ (by rfl) ?_) | fail); try simp -dsimp -implicitDefEqProofs (maxSteps := 1000000) (disch := first | omega | (simp only [LN]; omega)) only [go_sem])
  | fail)
theorem tSize6 (A : Dv) (J : JT) (k : Nat) (hk : k < 8) (hn : A.n ≤ 8) : ACalls Tryz.prog 111 [.loc (4 + k) 0] [deO A 1 2 3 4, peO A, cuO A, liO A J 12, thO A 0 0 20, thO A 1 0 20, thO A 2 0 20, thO A 3 0 20, thO A 4 0 20, thO A 5 0 20, thO A 6 0 20, thO A 7 0 20, hiO A J 0, hiO A J 1, hiO A J 2, hiO A J 3, hiO A J 4, hiO A J 5, hiO A J 6, hiO A J 7, noO A 0, noO A 1, noO A 2, noO A 3, noO A 4, noO A 5, noO A 6, noO A 7] (.p (.v (.int .u64 ((64 * A.n : Nat) : Int)))) [deO A 1 2 3 4, peO A, cuO A, liO A J 12, thO A 0 0 20, thO A 1 0 20, thO A 2 0 20, thO A 3 0 20, thO A 4 0 20, thO A 5 0 20, thO A 6 0 20, thO A 7 0 20, hiO A J 0, hiO A J 1, hiO A J 2, hiO A J 3, hiO A J 4, hiO A J 5, hiO A J 6, hiO A J 7, noO A 0, noO A 1, noO A 2, noO A 3, noO A 4, noO A 5, noO A 6, noO A 7] := by
 refine yA (E := E) (fn := Tryz.f111) 10 [.tmp 2] rfl rfl rfl rfl (by decide) rfl rfl ?_
 repeat' (first
  | (with_reducible first | apply zY | apply zT | apply zM | apply zN | apply zO | refine chk_ok (by kernel_rfl) ?_)
  | ((with_reducible first | apply zP | apply zQ | apply zR | apply zL) <;> intro h)
  | ((with_reducible show False); omega)
  | ((first | (with_reducible first | apply zW | apply zV | apply zU | apply zS | apply zX | show VX _ _ _ _ _ _ _ | show vstep _ _ _ _ _ | show vskip _ _ _ | show withV _ _) | ((with_reducible show endA _ _ _ _ _ _ _); simp -implicitDefEqProofs only [endA]) | (with_reducible first | refine zB default (by first | omega | (simp only [LN]; omega)) (by first | omega | (simp only [LN]; omega)) ?_ | refine zC default (by first | omega | (simp only [LN]; omega)) ?_ | refine And.intro (by first | decide | omega | assumption | (simp only [LN]; omega)) ?_) | (with_reducible first | apply zG | apply zH | apply zI | apply hidePI_own) | ((with_reducible apply zJ); (first | exact dSize6 A J hn | fail)) | ((with_reducible show pickE _ _ _); first | refine zA _ ⟨by omega, by rfl⟩ ?_ | refine zA _ (by rfl) ?_) | fail); try simp -dsimp -implicitDefEqProofs (maxSteps := 1000000) (disch := first | omega | (simp only [LN]; omega)) only [go_sem])
  | fail)
end Go.Proofs.YtegekpjkbedngaaGreat
namespace Go.Proofs.YtegekpjkbedngaaGreat
set_option maxHeartbeats 4000000
set_option maxRecDepth 100000
open Go Go.Ab
attribute [local irreducible] callK callF loopQ vstep vskip pickE hideP
theorem wr64 (x : Int) : IntKind.u64.wrap x = x % 18446744073709551616 := IntKind.wrap_u64 x
theorem wr8 (x : Int) : IntKind.u8.wrap x = x % 256 := IntKind.wrap_u8 x
abbrev bs (l : List UInt8) : ByteArray := ⟨l.toArray⟩
theorem bs_size (l : List UInt8) : (ByteArray.mk l.toArray).size = l.length := by simp [ByteArray.size]
theorem bs_list (l : List UInt8) : (ByteArray.mk l.toArray).data.toList = l := rfl
theorem bs_inj {a b : List UInt8} : (ByteArray.mk a.toArray = ByteArray.mk b.toArray) ↔ a = b := by
 constructor
 ·intro h; have := congrArg (fun x => x.data.toList) h; simpa using this
 ·rintro rfl; rfl
theorem tdiv64 (a : Nat) : Int.tdiv (a : Int) 64 = ((a / 64 : Nat) : Int) := rfl
theorem tmod64 (a : Nat) : Int.tmod (a : Int) 64 = ((a % 64 : Nat) : Int) := rfl
theorem i64w {x : Int} (h0 : -9223372036854775808 ≤ x) (h1 : x ≤ 9223372036854775807) : IntKind.i64.wrap x = x := by rw [IntKind.wrap_i64]; omega
theorem toList_bs (l : List UInt8) : (ByteArray.mk l.toArray).toList = l := by rw [Lib.toList_data]
theorem ext_bs (l : List UInt8) (a b : Nat) : (ByteArray.mk l.toArray).extract a b = ByteArray.mk ((l.drop a).take (b - a)).toArray := by
 apply ByteArray.ext
 apply Array.ext'
 simp [List.extract_eq_take_drop]
theorem beq_dec (a b : List UInt8) : (a == b) = decide (a = b) := by by_cases h : a = b <;> simp [h]
attribute [go_sem] toList_bs ext_bs beq_dec tdiv64 tmod64 bs_size bs_list bs_inj allB_map toBs_map
def eI (l : List UInt8) : PV := .agg [.v (.string (bs l))]
attribute [local go_sem] eI
theorem c15 (l : List UInt8) (hl : l.length ≤ 9000000) : PCalls Tryz.prog 47 [eI l] (.v (.int .i64 ((l.length / 64 : Nat) : Int))) := by
 refine yB (E := E) (fn := Tryz.f47) 7 [.tmp 2] rfl rfl rfl rfl (by decide) rfl ?_
 repeat' (first
  | (with_reducible first | apply zY | apply zT | apply zM | apply zN | apply zO | refine chk_ok (by kernel_rfl) ?_)
  | ((with_reducible first | apply zP | apply zQ | apply zR | apply zL) <;> intro h)
  | ((with_reducible show False); omega)
  | ((first | (with_reducible first | apply zW | apply zV | apply zU | apply zS | apply zX | show VX _ _ _ _ _ _ _ | show vstep _ _ _ _ _ | show vskip _ _ _ | show withV _ _) | ((with_reducible show endA _ _ _ _ _ _ _); simp -implicitDefEqProofs only [endA]) | (with_reducible first | refine zB default (by first | omega | (simp only [LN]; omega)) (by first | omega | (simp only [LN]; omega)) ?_ | refine zC default (by first | omega | (simp only [LN]; omega)) ?_ | refine And.intro (by first | decide | omega | assumption | (simp only [LN]; omega)) ?_) | ((with_reducible show pickE _ _ _); first | refine zA _ ⟨by omega, by rfl⟩ ?_ | refine zA _ (by rfl) ?_) | fail); try simp -dsimp -implicitDefEqProofs (maxSteps := 1000000) (disch := first | omega | (simp only [LN]; omega)) only [go_sem])
  | fail)
 all_goals rfl
theorem c17 (l : List UInt8) (hl : l.length ≤ 9000000) : PCalls Tryz.prog 49 [eI l] (.view 1 (l.map eB)) := by
 refine yB (E := E) (fn := Tryz.f49) 6 [.tmp 2] rfl rfl rfl rfl (by decide) rfl ?_
 repeat' (first
  | (with_reducible first | apply zY | apply zT | apply zM | apply zN | apply zO | refine chk_ok (by kernel_rfl) ?_)
  | ((with_reducible first | apply zP | apply zQ | apply zR | apply zL) <;> intro h)
  | ((with_reducible show False); omega)
  | ((first | (with_reducible first | apply zW | apply zV | apply zU | apply zS | apply zX | show VX _ _ _ _ _ _ _ | show vstep _ _ _ _ _ | show vskip _ _ _ | show withV _ _) | ((with_reducible show endA _ _ _ _ _ _ _); simp -implicitDefEqProofs only [endA]) | (with_reducible first | refine zB default (by first | omega | (simp only [LN]; omega)) (by first | omega | (simp only [LN]; omega)) ?_ | refine zC default (by first | omega | (simp only [LN]; omega)) ?_ | refine And.intro (by first | decide | omega | assumption | (simp only [LN]; omega)) ?_) | ((with_reducible show pickE _ _ _); first | refine zA _ ⟨by omega, by rfl⟩ ?_ | refine zA _ (by rfl) ?_) | fail); try simp -dsimp -implicitDefEqProofs (maxSteps := 1000000) (disch := first | omega | (simp only [LN]; omega)) only [go_sem])
  | fail)
 all_goals rfl
def newM (l : List UInt8) : List UInt8 := if l.length % 64 = 0 ∧ l.length / 64 ≤ 4096 then l else []
def newE (l : List UInt8) : Int := if l.length % 64 ≠ 0 then 11 else if 4096 < l.length / 64 then 1 else 0
theorem c14 (l : List UInt8) : PCalls Tryz.prog 61 [.view 1 (l.map eB)] (.tup [eI (newM l), .v (.int .i64 (newE l))]) := by
 refine yD ⟨_, rfl, rfl, by decide⟩ fun hf => ?_
 simp only [go_sem, big] at hf
 refine yB (E := E) (fn := Tryz.f61) 17 [.cell 2 70, .tmp 3] rfl rfl rfl rfl (by decide) rfl ?_
 repeat' (first
  | (with_reducible first | apply zY | apply zT | apply zM | apply zN | apply zO | refine chk_ok (by kernel_rfl) ?_)
  | ((with_reducible first | apply zP | apply zQ | apply zR | apply zL) <;> intro h)
  | ((with_reducible show False); omega)
  | ((first | (with_reducible first | apply zW | apply zV | apply zU | apply zS | apply zX | show VX _ _ _ _ _ _ _ | show vstep _ _ _ _ _ | show vskip _ _ _ | show withV _ _) | ((with_reducible show endA _ _ _ _ _ _ _); simp -implicitDefEqProofs only [endA]) | (with_reducible first | refine zB default (by first | omega | (simp only [LN]; omega)) (by first | omega | (simp only [LN]; omega)) ?_ | refine zC default (by first | omega | (simp only [LN]; omega)) ?_ | refine And.intro (by first | decide | omega | assumption | (simp only [LN]; omega)) ?_) | ((with_reducible show pickE _ _ _); first | refine zA _ ⟨by omega, by rfl⟩ ?_ | refine zA _ (by rfl) ?_) | fail); try simp -dsimp -implicitDefEqProofs (maxSteps := 1000000) (disch := first | omega | (simp only [LN]; omega)) only [go_sem])
  | fail)
 all_goals unfold newM newE
 ·rw [if_neg (by omega), if_pos (by omega)]; exact ⟨rfl, rfl⟩
 ·rw [if_neg (by omega), if_neg (by omega), if_pos (by omega)]; exact ⟨rfl, rfl⟩
 ·rw [if_pos (by omega), if_neg (by omega), if_neg (by omega)]; exact ⟨rfl, rfl⟩
def byteM (l : List UInt8) (o k : Nat) : Nat := (l.getD (o + k) 0).toNat
def wordU (l : List UInt8) (o : Nat) : Nat → Nat
 | 0 => 0
 | k + 1 => wordU l o k + byteM l o k * 256 ^ k
@[go_sem] theorem wordU_0 (l : List UInt8) (o : Nat) : ((wordU l o 0 : Nat) : Int) = 0 := rfl
theorem shift8 (k : Nat) (hk : k < 8) : min (IntKind.u64.wrap (8 * (k : Int))).toNat 64 = 8 * k := by rw [wr64]; omega
theorem pow8 (k : Nat) : (2 : Int) ^ (8 * k) = 256 ^ k := by rw [Int.pow_mul]; rfl
def putM (l : List UInt8) (o : Nat) (v : Int) : Nat → List UInt8
 | 0 => l
 | k + 1 => (putM l o v k).set (o + k) (UInt8.ofNat (v / 256 ^ k % 256).toNat)
@[go_sem] theorem putM_0 (l : List UInt8) (o : Nat) (v : Int) : putM l o v 0 = l := rfl
@[go_sem] theorem putM_len (l : List UInt8) (o : Nat) (v : Int) : ∀ k, (putM l o v k).length = l.length
 | 0 => rfl
 | k + 1 => by rw [putM, List.length_set, putM_len l o v k]
theorem put_step (l : List UInt8) (o k : Nat) (v : Int) (hk : k < 8) : ((putM l o v k).map eB).set (o + k) (PV.v (.int .u8 (IntKind.u8.wrap (v / 2 ^ min (IntKind.u64.wrap (8 * (k : Int))).toNat 64)))) = (putM l o v (k + 1)).map eB := by
 rw [shift8 k hk, pow8, putM, List.map_set, wr8]
 congr 1
 show _ = eB _
 unfold eB
 congr 2
 have h0 : 0 ≤ v / 256 ^ k % 256 := Int.emod_nonneg _ (by decide)
 have h1 : v / 256 ^ k % 256 < 256 := Int.emod_lt_of_pos _ (by decide)
 generalize v / 256 ^ k % 256 = x at *
 simp; omega
end Go.Proofs.YtegekpjkbedngaaGreat
namespace Go.Proofs.YtegekpjkbedngaaGreat
set_option maxHeartbeats 4000000
set_option maxRecDepth 100000
open Go Go.Ab
attribute [local irreducible] callK callF loopQ vstep vskip pickE hideP
def pW (a : Nat) : Int := 562954248388609 + a
def eP (a : Nat) : PV := .v (.int .u64 (pW a))
theorem u64w {x : Int} (h0 : 0 ≤ x) (h1 : x ≤ 18446744073709551615) : IntKind.u64.wrap x = x := by rw [IntKind.wrap_u64]; omega
theorem pW_u32 {a : Nat} (h : a < 30) : IntKind.u32.wrap (pW a) = ((a + 1 : Nat) : Int) := by rw [IntKind.wrap_u32]; unfold pW; omega
theorem pW_0 {a : Nat} : ¬ (pW a = 0) := by unfold pW; omega
def wO (a i : Nat) : Nat := 8 * (a + 1 + i)
theorem wO_def (a i : Nat) : wO a i = 8 * (a + 1 + i) := rfl
theorem qOff (a : Nat) (ha : a < 30) : PCalls Tryz.prog 24 [eP a] (.v (.int .u64 (wO a 0 : Nat))) := by
 refine yB (E := E) (fn := Tryz.f24) 7 [.tmp 2] rfl rfl rfl rfl (by decide) rfl ?_
 have e1 : IntKind.u32.wrap (pW a) = (a : Int) + 1 := pW_u32 ha
 have e2 := u64w (x := (a : Int) + 1) (by omega) (by omega)
 have e3 : IntKind.u64.wrap (((a : Int) + 1) * 8) = ((wO a 0 : Nat) : Int) := (u64w (by omega) (by omega)).trans (by rw [wO_def]; omega)
 unfold eP
 repeat' (first
  | (with_reducible first | apply zY | apply zT | apply zM | apply zN | apply zO | refine chk_ok (by kernel_rfl) ?_)
  | ((with_reducible first | apply zP | apply zQ | apply zR | apply zL) <;> intro h <;> try (exfalso; first | omega | exact h rfl | (revert h; decide) | (cases h; done)))
  | ((with_reducible show False); omega)
  | ((first | (with_reducible first | apply zW | apply zV | apply zU | apply zS | apply zX | show VX _ _ _ _ _ _ _ | show vstep _ _ _ _ _ | show vskip _ _ _ | show withV _ _) | ((with_reducible show endA _ _ _ _ _ _ _); simp -implicitDefEqProofs only [endA]) | (with_reducible first | refine zB default (by first | omega | (simp only [LN, e1, e2, e3]; omega)) (by first | omega | (simp only [LN, e1, e2, e3]; omega)) ?_ | refine zC default (by first | omega | (simp only [LN, e1, e2, e3]; omega)) ?_ | refine And.intro (by first | decide | omega | assumption | (simp only [LN, e1, e2, e3]; omega)) ?_) | ((with_reducible show pickE _ _ _); first | refine zA _ ⟨by omega, by rfl⟩ ?_ | refine zA _ (by rfl) ?_) | fail); try simp -dsimp -implicitDefEqProofs (maxSteps := 1000000) (disch := first | omega | (simp only [LN, e1, e2, e3]; omega)) only [go_sem, e1, e2, e3])
  | fail)
theorem qNil (a : Nat) : PCalls Tryz.prog 23 [eP a] (.v (.bool false)) := by
 refine yB (E := E) (fn := Tryz.f23) 5 [.tmp 2] rfl rfl rfl rfl (by decide) rfl ?_
 have e1 : (pW a == 0) = false := by simp [pW_0]
 unfold eP
 repeat' (first
  | (with_reducible first | apply zY | apply zT | apply zM | apply zN | apply zO | refine chk_ok (by kernel_rfl) ?_)
  | ((with_reducible first | apply zP | apply zQ | apply zR | apply zL) <;> intro h <;> try (exfalso; first | omega | exact h rfl | (revert h; decide) | (cases h; done)))
  | ((with_reducible show False); omega)
  | ((first | (with_reducible first | apply zW | apply zV | apply zU | apply zS | apply zX | show VX _ _ _ _ _ _ _ | show vstep _ _ _ _ _ | show vskip _ _ _ | show withV _ _) | ((with_reducible show endA _ _ _ _ _ _ _); simp -implicitDefEqProofs only [endA]) | (with_reducible first | refine zB default (by first | omega | (simp only [LN, e1]; omega)) (by first | omega | (simp only [LN, e1]; omega)) ?_ | refine zC default (by first | omega | (simp only [LN, e1]; omega)) ?_ | refine And.intro (by first | decide | omega | assumption | (simp only [LN, e1]; omega)) ?_) | ((with_reducible show pickE _ _ _); first | refine zA _ ⟨by omega, by rfl⟩ ?_ | refine zA _ (by rfl) ?_) | fail); try simp -dsimp -implicitDefEqProofs (maxSteps := 1000000) (disch := first | omega | (simp only [LN, e1]; omega)) only [go_sem, e1])
  | fail)
theorem qAt (a : Nat) (ha : a < 30) (i : Nat) (hi : i < 28) : PCalls Tryz.prog 7 [eP a, .v (.int .i64 i)] (.v (.int .u64 (wO a i : Nat))) := by
 refine yB (E := E) (fn := Tryz.f7) 21 [.tmp 4] rfl rfl rfl rfl (by decide) rfl ?_
 have e1 := u64w (x := (i : Int)) (by omega) (by omega)
 have e2 := u64w (x := 8 * (i : Int)) (by omega) (by omega)
 have e3 : IntKind.u64.wrap (((wO a 0 : Nat) : Int) + 8 * i) = ((wO a i : Nat) : Int) := by rw [wO_def, wO_def]; exact (u64w (by omega) (by omega)).trans (by omega)
 repeat' (first
  | (with_reducible first | apply zY | apply zT | apply zM | apply zN | apply zO | refine chk_ok (by kernel_rfl) ?_)
  | ((with_reducible first | apply zP | apply zQ | apply zR | apply zL) <;> intro h <;> try (exfalso; first | omega | exact h rfl | (revert h; decide) | (cases h; done)))
  | ((with_reducible show False); omega)
  | ((first | (with_reducible first | apply zW | apply zV | apply zU | apply zS | apply zX | show VX _ _ _ _ _ _ _ | show vstep _ _ _ _ _ | show vskip _ _ _ | show withV _ _) | ((with_reducible show endA _ _ _ _ _ _ _); simp -implicitDefEqProofs only [endA]) | (with_reducible first | refine zB default (by first | omega | (simp only [LN, e1, e2, e3]; omega)) (by first | omega | (simp only [LN, e1, e2, e3]; omega)) ?_ | refine zC default (by first | omega | (simp only [LN, e1, e2, e3]; omega)) ?_ | refine And.intro (by first | decide | omega | assumption | (simp only [LN, e1, e2, e3]; omega)) ?_) | ((with_reducible apply zD); (first | exact qOff a ha | exact qNil a | fail)) | ((with_reducible apply zE); (first | exact qOff a ha | exact qNil a | fail); rfl) | ((with_reducible apply zF); (first | exact qOff a ha | exact qNil a | fail)) | ((with_reducible show pickE _ _ _); first | refine zA _ ⟨by omega, by rfl⟩ ?_ | refine zA _ (by rfl) ?_) | fail); try simp -dsimp -implicitDefEqProofs (maxSteps := 1000000) (disch := first | omega | (simp only [LN, e1, e2, e3]; omega)) only [go_sem, e1, e2, e3])
  | fail)
 all_goals first | omega
theorem qMake (a : Nat) (ha : a < 30) : PCalls Tryz.prog 5 [.v (.int .u64 (wO a 0 : Nat)), .v (.int .u16 1), .v (.int .u8 2)] (.tup [eP a, .v (.int .i64 0)]) := by
 refine yB (E := E) (fn := Tryz.f5) 39 [.tmp 6, .tmp 7] rfl rfl rfl rfl (by decide) rfl ?_
 have hlt : 562954248388609 + (a : Int) = pW a := rfl
 unfold eP
 have t1 : ∀ k : Nat, k < 30 → IntKind.u64.wrap ((BitVec.ofInt IntKind.u64.bits ((k : Int) + 1) ||| BitVec.ofInt IntKind.u64.bits 4294967296).toNat : Int) = (k : Int) + 4294967297 := by decide
 have t2 : ∀ k : Nat, k < 30 → IntKind.u64.wrap ((BitVec.ofInt IntKind.u64.bits ((k : Int) + 4294967297) ||| BitVec.ofInt IntKind.u64.bits 562949953421312).toNat : Int) = 562954248388609 + (k : Int) := by decide
 have e1b : ((wO a 0 : Nat) : Int).tmod 8 = 0 := by rw [show ((wO a 0 : Nat) : Int).tmod 8 = ((wO a 0 % 8 : Nat) : Int) from rfl, wO_def, Nat.mul_mod_right]; rfl
 have e2b : ((wO a 0 : Nat) : Int).tdiv 8 = (a : Int) + 1 := by rw [show ((wO a 0 : Nat) : Int).tdiv 8 = ((wO a 0 / 8 : Nat) : Int) from rfl, wO_def, Nat.mul_div_cancel_left _ (by decide)]; omega
 have e1 : IntKind.u64.wrap 0 = 0 := rfl
 have e2 := u64w (x := (a : Int) + 1) (by omega) (by omega)
 have e3 := t1 a ha
 have e4 := t2 a ha
 have e6 : IntKind.u64.wrap 1 = 1 := rfl
 have e7 : IntKind.u64.wrap 2 = 2 := rfl
 have e8 : IntKind.u64.wrap 4294967296 = 4294967296 := rfl
 have e9 : IntKind.u64.wrap 562949953421312 = 562949953421312 := rfl
 have hw := wO_def a 0
 have e10 : (((wO a 0 : Nat) : Int) == 0) = false := by simp; omega
 repeat' (first
  | (with_reducible first | apply zY | apply zT | apply zM | apply zN | apply zO | refine chk_ok (by kernel_rfl) ?_)
  | ((with_reducible first | apply zP | apply zQ | apply zR | apply zL) <;> intro h <;> try (exfalso; first | omega | exact h rfl | (revert h; decide) | (cases h; done)))
  | ((with_reducible show False); omega)
  | ((first | (with_reducible first | apply zW | apply zV | apply zU | apply zS | apply zX | show VX _ _ _ _ _ _ _ | show vstep _ _ _ _ _ | show vskip _ _ _ | show withV _ _) | ((with_reducible show endA _ _ _ _ _ _ _); simp -implicitDefEqProofs only [endA]) | (with_reducible first | refine zB default (by first | omega | (simp only [LN, e1, e1b, e2, e2b, e3, e4, e6, e7, e8, e9, e10, hlt]; omega)) (by first | omega | (simp only [LN, e1, e1b, e2, e2b, e3, e4, e6, e7, e8, e9, e10, hlt]; omega)) ?_ | refine zC default (by first | omega | (simp only [LN, e1, e1b, e2, e2b, e3, e4, e6, e7, e8, e9, e10, hlt]; omega)) ?_ | refine And.intro (by first | decide | omega | assumption | (simp only [LN, e1, e1b, e2, e2b, e3, e4, e6, e7, e8, e9, e10, hlt]; omega)) ?_) | ((with_reducible show pickE _ _ _); first | refine zA _ ⟨by omega, by rfl⟩ ?_ | refine zA _ (by rfl) ?_) | fail); try simp -dsimp -implicitDefEqProofs (maxSteps := 1000000) (disch := first | omega | (simp only [LN, e1, e1b, e2, e2b, e3, e4, e6, e7, e8, e9, e10, hlt]; omega)) only [go_sem, e1, e1b, e2, e2b, e3, e4, e6, e7, e8, e9, e10, hlt])
  | fail)
 all_goals first | omega
theorem qStart (o : Nat) (h : o ≤ 1000000) : PCalls Tryz.prog 25 [.v (.int .u64 o)] (.v (.int .u64 ((64 * (o / 64) : Nat) : Int))) := by
 refine yB (E := E) (fn := Tryz.f25) 7 [.tmp 2] rfl rfl rfl rfl (by decide) rfl ?_
 have e0 : (o : Int).tmod 64 = ((o % 64 : Nat) : Int) := rfl
 have e1 := u64w (x := ((o % 64 : Nat) : Int)) (by omega) (by omega)
 have e2 : IntKind.u64.wrap ((o : Int) - ((o % 64 : Nat) : Int)) = ((64 * (o / 64) : Nat) : Int) := (u64w (by omega) (by omega)).trans (by omega)
 repeat' (first
  | (with_reducible first | apply zY | apply zT | apply zM | apply zN | apply zO | refine chk_ok (by kernel_rfl) ?_)
  | ((with_reducible first | apply zP | apply zQ | apply zR | apply zL) <;> intro h <;> try (exfalso; first | omega | exact h rfl | (revert h; decide) | (cases h; done)))
  | ((with_reducible show False); omega)
  | ((first | (with_reducible first | apply zW | apply zV | apply zU | apply zS | apply zX | show VX _ _ _ _ _ _ _ | show vstep _ _ _ _ _ | show vskip _ _ _ | show withV _ _) | ((with_reducible show endA _ _ _ _ _ _ _); simp -implicitDefEqProofs only [endA]) | (with_reducible first | refine zB default (by first | omega | (simp only [LN, e0, e1, e2]; omega)) (by first | omega | (simp only [LN, e0, e1, e2]; omega)) ?_ | refine zC default (by first | omega | (simp only [LN, e0, e1, e2]; omega)) ?_ | refine And.intro (by first | decide | omega | assumption | (simp only [LN, e0, e1, e2]; omega)) ?_) | ((with_reducible show pickE _ _ _); first | refine zA _ ⟨by omega, by rfl⟩ ?_ | refine zA _ (by rfl) ?_) | fail); try simp -dsimp -implicitDefEqProofs (maxSteps := 1000000) (disch := first | omega | (simp only [LN, e0, e1, e2]; omega)) only [go_sem, e0, e1, e2])
  | fail)
theorem qLine (o : Nat) (h : o ≤ 1000000) : PCalls Tryz.prog 37 [.v (.int .u64 o)] (.v (.int .u64 ((64 * (o / 64) : Nat) : Int))) := by
 refine yB (E := E) (fn := Tryz.f37) 7 [.tmp 2] rfl rfl rfl rfl (by decide) rfl ?_
 have e0 : (o : Int).tmod 64 = ((o % 64 : Nat) : Int) := rfl
 have e1 := u64w (x := ((o % 64 : Nat) : Int)) (by omega) (by omega)
 have e2 : IntKind.u64.wrap ((o : Int) - ((o % 64 : Nat) : Int)) = ((64 * (o / 64) : Nat) : Int) := (u64w (by omega) (by omega)).trans (by omega)
 repeat' (first
  | (with_reducible first | apply zY | apply zT | apply zM | apply zN | apply zO | refine chk_ok (by kernel_rfl) ?_)
  | ((with_reducible first | apply zP | apply zQ | apply zR | apply zL) <;> intro h <;> try (exfalso; first | omega | exact h rfl | (revert h; decide) | (cases h; done)))
  | ((with_reducible show False); omega)
  | ((first | (with_reducible first | apply zW | apply zV | apply zU | apply zS | apply zX | show VX _ _ _ _ _ _ _ | show vstep _ _ _ _ _ | show vskip _ _ _ | show withV _ _) | ((with_reducible show endA _ _ _ _ _ _ _); simp -implicitDefEqProofs only [endA]) | (with_reducible first | refine zB default (by first | omega | (simp only [LN, e0, e1, e2]; omega)) (by first | omega | (simp only [LN, e0, e1, e2]; omega)) ?_ | refine zC default (by first | omega | (simp only [LN, e0, e1, e2]; omega)) ?_ | refine And.intro (by first | decide | omega | assumption | (simp only [LN, e0, e1, e2]; omega)) ?_) | ((with_reducible show pickE _ _ _); first | refine zA _ ⟨by omega, by rfl⟩ ?_ | refine zA _ (by rfl) ?_) | fail); try simp -dsimp -implicitDefEqProofs (maxSteps := 1000000) (disch := first | omega | (simp only [LN, e0, e1, e2]; omega)) only [go_sem, e0, e1, e2])
  | fail)
end Go.Proofs.YtegekpjkbedngaaGreat
