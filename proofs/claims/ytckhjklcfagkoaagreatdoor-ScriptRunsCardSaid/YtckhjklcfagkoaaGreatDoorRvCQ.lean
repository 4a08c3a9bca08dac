/- Contracts of functions of this program, and the plain facts that they rest on. No conditions. -/
import Derived.Test.YtckhjklcfagkoaaGreatDoorRvBQ
set_option linter.unusedSimpArgs false
set_option linter.unusedVariables false
namespace Go.Proofs.YtckhjklcfagkoaaGreatDoor
set_option maxHeartbeats 4000000
set_option maxRecDepth 100000
open Go Go.Ab
attribute [local irreducible] callK callF loopQ vstep vskip pickE hideP
attribute [local go_sem] rdO rlO lns_len
theorem rPut (A : Dv) (M : MT) (h : WF A) (r : Nat) (hr : r < A.n) (o v : Int) (ho : o / 64 = r ∧ o % 8 = 0 ∧ 0 ≤ o ∧ o ≤ 18446744073709551615) : ACalls Tryz.prog 88 [.loc 0 0, .p (.v (.int .u64 o)), .p (.v (.int .u64 v))] [rdO A M 1, rlO A] (.p (.tup [])) [rdO (A.put r o v) M 1, rlO (A.put r o v)] := by
 refine yA (E := E) (fn := Tryz.f88) 28 [] rfl rfl rfl rfl (by decide) rfl rfl ?_
 have h6 := h.n6
 have hl := h.len r (by omega)
 obtain ⟨ho1, ho2, ho3, ho4⟩ := ho
 have e1 : IntKind.u64.wrap (o.tdiv 64) = (r : Int) := by rw [Int.tdiv_eq_ediv_of_nonneg ho3, IntKind.wrap_u64]; omega
 have e2 : IntKind.u64.wrap (o / 64) = (r : Int) := by rw [IntKind.wrap_u64]; omega
 have hg := lns_get A hr
 have hs := lns_set (A := A) (B := A.put r o v) rfl (r := r) (e := .agg [wA A.per r 0, wA A.per r 1, wA A.per r 2, wA A.per r 3, wA A.per r 4, wA A.per r 5, wA A.per r 6, wA A.per r 7, .view 2 ((A.hist r).map eWr ++ [.agg [.v (.int .u64 o), .v (.int .u64 v)]]), .v (.int .i64 (A.done r))]) (by
   unfold lnP
   rw [put_hist, if_pos rfl, List.map_append]; rfl) (fun i hi hne => by
   unfold lnP
   rw [put_hist, if_neg hne]; rfl)
 have hlf : leftR (A.put r o v) = leftR A := rfl
 repeat' (first
  | (with_reducible first | apply zY | apply zT | apply zM | apply zN | apply zO | refine chk_ok (by kernel_rfl) ?_)
  | ((with_reducible first | apply zP | apply zQ | apply zR | apply zL) <;> intro h)
  | ((with_reducible show False); omega)
  | ((first | (with_reducible first | apply zW | apply zV | apply zU | apply zS | apply zX | show VX _ _ _ _ _ _ _ | show vstep _ _ _ _ _ | show vskip _ _ _ | show withV _ _) | ((with_reducible show endA _ _ _ _ _ _ _); simp -implicitDefEqProofs only [endA]) | (with_reducible first | refine zB default (by first | omega | (simp only [LN, e1, e2, hg, lnP]; omega)) (by first | omega | (simp only [LN, e1, e2, hg, lnP]; omega)) ?_ | refine zC default (by first | omega | (simp only [LN, e1, e2, hg, lnP]; omega)) ?_ | refine And.intro (by first | decide | omega | assumption | (simp only [LN, e1, e2, hg, lnP]; omega)) ?_) | ((with_reducible show pickE _ _ _); first | refine zA _ ⟨by omega, by rfl⟩ ?_ | refine zA _ (by rfl) ?_) | fail); try simp -dsimp -implicitDefEqProofs (maxSteps := 1000000) (disch := first | omega | (simp only [LN, e1, e2, hg, lnP]; omega)) only [go_sem, e1, e2, hg, lnP])
  | fail)
 all_goals first | (refine ⟨⟨rfl, rfl, rfl, rfl, rfl, rfl, rfl, rfl, rfl, rfl, rfl, rfl⟩, ?_⟩; first | exact hs | exact .inl hs) | (simp [put_p, hlf, hs]; done)
theorem per_ln (A : Dv) (h : WF A) (r k : Nat) (hr : r < A.n) (hk : k ≤ (A.hist r).length) : ∀ i, i < A.n → i ≠ r → lnP (A.persist r k) i = lnP A i := by
 intro i hi hne
 have h6 := h.n6
 have hw : ∀ j, j < 8 → wA (A.persist r k).per i j = wA A.per i j := fun j hj => by
  show wA (appL A.per ((A.hist r).take k)) i j = _
  unfold wA
  rw [appL_off _ (8 * i + j) (fun x hx => ?_) A.per]
  have := h.hist r (by omega) x (List.mem_of_mem_take hx)
  omega
 unfold lnP
 rw [per_hist, if_neg hne, per_done, if_neg hne, hw 0 (by decide), hw 1 (by decide), hw 2 (by decide), hw 3 (by decide), hw 4 (by decide), hw 5 (by decide), hw 6 (by decide), hw 7 (by decide)]
theorem rPer (A : Dv) (M : MT) (h : WF A) (r k : Nat) (hr : r < A.n) (hk : k ≤ (A.hist r).length) : ACalls Tryz.prog 90 [.loc 0 0, .p (.v (.int .i64 r)), .p (.v (.int .i64 k))] [rdO A M 1, rlO A] (.p (.tup [])) [rdO (A.persist r k) M 1, rlO (A.persist r k)] := by
 refine yA (E := E) (fn := Tryz.f90) 40 [] rfl rfl rfl rfl (by decide) rfl rfl ?_
 have h6 := h.n6
 have hl := h.len r (by omega)
 have hg := lns_get A hr
 have kw := rWords A h r k hr hk
 have e1 : IntKind.i64.wrap (A.done r + k) = A.done r + k := by rw [IntKind.wrap_i64]; omega
 have hs := lns_set (A := A) (B := A.persist r k) rfl (r := r) (e := .agg [wA (appL A.per ((A.hist r).take k)) r 0, wA (appL A.per ((A.hist r).take k)) r 1, wA (appL A.per ((A.hist r).take k)) r 2, wA (appL A.per ((A.hist r).take k)) r 3, wA (appL A.per ((A.hist r).take k)) r 4, wA (appL A.per ((A.hist r).take k)) r 5, wA (appL A.per ((A.hist r).take k)) r 6, wA (appL A.per ((A.hist r).take k)) r 7,   .view 2 (((A.hist r).drop k).map eWr), .v (.int .i64 (A.done r + k))]) (by
   unfold lnP
   rw [per_hist, if_pos rfl, per_done, if_pos rfl]; rfl) (per_ln A h r k hr hk)
 have hlf : leftR (A.persist r k) = leftR A := rfl
 have hgs : ∀ e : PV, ((lnsR A).set r e)[r]? = some e := fun e => by simp [lns_len, hr]
 repeat' (first
  | (with_reducible first | apply zY | apply zT | apply zM | apply zN | apply zO | refine chk_ok (by kernel_rfl) ?_)
  | ((with_reducible first | apply zP | apply zQ | apply zR | apply zL) <;> intro h)
  | ((with_reducible show False); omega)
  | ((first | (with_reducible first | apply zW | apply zV | apply zU | apply zS | apply zX | show VX _ _ _ _ _ _ _ | show vstep _ _ _ _ _ | show vskip _ _ _ | show withV _ _) | ((with_reducible show endA _ _ _ _ _ _ _); simp -implicitDefEqProofs only [endA]) | (with_reducible first | refine zB default (by first | omega | (simp only [LN, hg, e1, lnP, hgs, List.set_set, List.length_set]; omega)) (by first | omega | (simp only [LN, hg, e1, lnP, hgs, List.set_set, List.length_set]; omega)) ?_ | refine zC default (by first | omega | (simp only [LN, hg, e1, lnP, hgs, List.set_set, List.length_set]; omega)) ?_ | refine And.intro (by first | decide | omega | assumption | (simp only [LN, hg, e1, lnP, hgs, List.set_set, List.length_set]; omega)) ?_) | ((with_reducible apply zD); (exact kw)) | ((with_reducible apply zE); (exact kw); rfl) | ((with_reducible apply zF); (exact kw)) | ((with_reducible show pickE _ _ _); first | refine zA _ ⟨by omega, by rfl⟩ ?_ | refine zA _ (by rfl) ?_) | fail); try simp -dsimp -implicitDefEqProofs (maxSteps := 1000000) (disch := first | omega | (simp only [LN, hg, e1, lnP, hgs, List.set_set, List.length_set]; omega)) only [go_sem, hg, e1, lnP, hgs, List.set_set, List.length_set])
  | fail)
 all_goals first | (refine ⟨⟨rfl, rfl, rfl, rfl, rfl, rfl, rfl, rfl, rfl, rfl, rfl, rfl⟩, ?_⟩; first | exact hs | exact .inl hs)
end Go.Proofs.YtckhjklcfagkoaaGreatDoor
