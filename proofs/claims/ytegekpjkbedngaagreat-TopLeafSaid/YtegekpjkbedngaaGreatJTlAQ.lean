/- Contracts of functions of this program, and the plain facts that they rest on. No conditions. -/
import Derived.Test.YtegekpjkbedngaaGreatJDvOQ
import Derived.Test.YtegekpjkbedngaaGreatJSrAQ
set_option linter.unusedSectionVars false
set_option linter.unusedSimpArgs false
set_option linter.unusedVariables false
namespace Go.Proofs.YtegekpjkbedngaaGreat
set_option maxHeartbeats 4000000
set_option maxRecDepth 100000
open Go Go.Ab
attribute [local irreducible] callK callF loopQ vstep vskip pickE hideP
attribute [local go_sem] eU deO peO cuO liO thO hiO noO eWr eP
theorem kAllC (A : Dv) (J : JT) : ACalls Tryz.prog 19 [.loc 0 0, .p (.v (.int .i64 64))] [deO A 1 2 3 4, peO A, cuO A, liO A J 12, thO A 0 0 20, thO A 1 0 20, thO A 2 0 20, thO A 3 0 20, thO A 4 0 20, thO A 5 0 20, thO A 6 0 20, thO A 7 0 20, hiO A J 0, hiO A J 1, hiO A J 2, hiO A J 3, hiO A J 4, hiO A J 5, hiO A J 6, hiO A J 7, noO A 0, noO A 1, noO A 2, noO A 3, noO A 4, noO A 5, noO A 6, noO A 7] (.fn 43 [.loc 28 0, .loc 29 0]) [deO A 1 2 3 4, peO A, cuO A, liO A J 12, thO A 0 0 20, thO A 1 0 20, thO A 2 0 20, thO A 3 0 20, thO A 4 0 20, thO A 5 0 20, thO A 6 0 20, thO A 7 0 20, hiO A J 0, hiO A J 1, hiO A J 2, hiO A J 3, hiO A J 4, hiO A J 5, hiO A J 6, hiO A J 7, noO A 0, noO A 1, noO A 2, noO A 3, noO A 4, noO A 5, noO A 6, noO A 7, .var [.loc 0 0], .var [.p (.v (.int .i64 64))]] := by
 refine yA (E := E) (fn := Tryz.f19) 6 [.tmp 4] rfl rfl rfl rfl (by decide) rfl rfl ?_
 repeat' (first
  | (with_reducible first | apply zY | apply zT | apply zM | apply zN | apply zO | refine chk_ok (by kernel_rfl) ?_)
  | ((with_reducible first | apply zP | apply zQ | apply zR | apply zL) <;> intro h <;> try (exfalso; first | omega | exact h rfl | (revert h; decide) | (cases h; done)))
  | ((with_reducible show False); omega)
  | ((first | (with_reducible first | apply zW | apply zV | apply zU | apply zS | apply zX | show VX _ _ _ _ _ _ _ | show vstep _ _ _ _ _ | show vskip _ _ _ | show withV _ _) | ((with_reducible show endA _ _ _ _ _ _ _); simp -implicitDefEqProofs only [endA]) | (with_reducible first | refine zB default (by first | omega | (simp only [LN]; omega)) (by first | omega | (simp only [LN]; omega)) ?_ | refine zC default (by first | omega | (simp only [LN]; omega)) ?_ | refine And.intro (by first | decide | omega | assumption | (simp only [LN]; omega)) ?_) | ((with_reducible show pickE _ _ _); first | refine zA _ ⟨by omega, by rfl⟩ ?_ | refine zA _ (by rfl) ?_) | fail); try simp -dsimp -implicitDefEqProofs (maxSteps := 1000000) (disch := first | omega | (simp only [LN]; omega)) only [go_sem])
  | fail)
 all_goals first | rfl
theorem kLfAt0 (A : Dv) (J : JT) (a : Nat) : ACalls Tryz.prog 11 [.ifc 43 (.loc 4 0), .p (eP a)] [deO A 1 2 3 4, peO A, cuO A, liO A J 12, thO A 0 0 20, thO A 1 0 20, thO A 2 0 20, thO A 3 0 20, thO A 4 0 20, thO A 5 0 20, thO A 6 0 20, thO A 7 0 20, hiO A J 0, hiO A J 1, hiO A J 2, hiO A J 3, hiO A J 4, hiO A J 5, hiO A J 6, hiO A J 7, noO A 0, noO A 1, noO A 2, noO A 3, noO A 4, noO A 5, noO A 6, noO A 7] (.agg [.ifc 43 (.loc 4 0), .p (eP a)]) [deO A 1 2 3 4, peO A, cuO A, liO A J 12, thO A 0 0 20, thO A 1 0 20, thO A 2 0 20, thO A 3 0 20, thO A 4 0 20, thO A 5 0 20, thO A 6 0 20, thO A 7 0 20, hiO A J 0, hiO A J 1, hiO A J 2, hiO A J 3, hiO A J 4, hiO A J 5, hiO A J 6, hiO A J 7, noO A 0, noO A 1, noO A 2, noO A 3, noO A 4, noO A 5, noO A 6, noO A 7] := by
 refine yA (E := E) (fn := Tryz.f11) 8 [.cell 4 48] rfl rfl rfl rfl (by decide) rfl rfl ?_
 repeat' (first
  | (with_reducible first | apply zY | apply zT | apply zM | apply zN | apply zO | refine chk_ok (by kernel_rfl) ?_)
  | ((with_reducible first | apply zP | apply zQ | apply zR | apply zL) <;> intro h <;> try (exfalso; first | omega | exact h rfl | (revert h; decide) | (cases h; done)))
  | ((with_reducible show False); omega)
  | ((first | (with_reducible first | apply zW | apply zV | apply zU | apply zS | apply zX | show VX _ _ _ _ _ _ _ | show vstep _ _ _ _ _ | show vskip _ _ _ | show withV _ _) | ((with_reducible show endA _ _ _ _ _ _ _); simp -implicitDefEqProofs only [endA]) | (with_reducible first | refine zB default (by first | omega | (simp only [LN]; omega)) (by first | omega | (simp only [LN]; omega)) ?_ | refine zC default (by first | omega | (simp only [LN]; omega)) ?_ | refine And.intro (by first | decide | omega | assumption | (simp only [LN]; omega)) ?_) | ((with_reducible show pickE _ _ _); first | refine zA _ ⟨by omega, by rfl⟩ ?_ | refine zA _ (by rfl) ?_) | fail); try simp -dsimp -implicitDefEqProofs (maxSteps := 1000000) (disch := first | omega | (simp only [LN]; omega)) only [go_sem])
  | fail)
 all_goals first | rfl
structure LOp where
 del : Bool
 key : Int
 v : Int
instance : Inhabited LOp := ⟨⟨false, 0, 0⟩⟩
def eOp (x : LOp) : PV := .agg [.v (.bool x.del), .v (.int .u64 x.key), .v (.int .u64 x.v)]
structure RngO (x : LOp) : Prop where
 key : 0 ≤ x.key ∧ x.key ≤ 18446744073709551615
 v : 0 ≤ x.v ∧ x.v ≤ 18446744073709551615
def opsL (l : List LOp) : List LOp := [⟨false, 10, 3⟩, ⟨true, 20, 0⟩] ++ l.take (min l.length 16)
theorem opsL_len (l : List LOp) : (opsL l).length ≤ 18 := by unfold opsL; rw [List.length_append, List.length_take]; simp only [List.length_cons, List.length_nil]; omega
theorem opsL_rng {l : List LOp} (h : ∀ x, x ∈ l → RngO x) : ∀ x, x ∈ opsL l → RngO x := by
 intro x hx
 rcases List.mem_append.1 hx with hx | hx
 ·simp only [List.mem_cons, List.not_mem_nil, or_false] at hx
  rcases hx with rfl | rfl
  ·exact ⟨by simp, by simp⟩
  ·exact ⟨by simp, by simp⟩
 ·exact h x (List.mem_of_mem_take hx)
theorem init_ps : PS (Dv.fresh 8 (List.replicate 64 0)) (List.replicate 64 0) [] [] :=
 ⟨⟨rfl, rfl, rfl, fun _ => rfl⟩, rfl, rfl, fun _ _ => rfl, fun _ _ => rfl, fun x v h => by simp [Dv.fresh] at h⟩
theorem ps_stores {ws : List Int} (hw : ws.length = 64) : ∀ (l : List (Int × Int)) (A : Dv) (st : List (Int × Int)), PS A ws st [] → (∀ s, s ∈ l → WOff s.1) → PS (A.execs (l.map toS)) ws (st ++ l) []
 | [], A, st, h, _ => by rw [List.append_nil]; exact h
 | s :: l, A, st, h, hs => by
  have := ps_stores hw l _ _ (h.store (v := s.2) (hs s List.mem_cons_self) fun r hr => by simp at hr) fun x hx => hs x (List.mem_cons_of_mem _ hx)
  rw [List.append_assoc] at this; exact this
theorem ps_flushes {ws : List Int} {st : List (Int × Int)} : ∀ (l : List Int) (A : Dv) (fl : List Nat), PS A ws st fl → (∀ o, o ∈ l → 0 ≤ o ∧ o < 512) → PS (A.execs (l.map toF)) ws st (fl ++ l.map fun o => (o / 64).toNat)
 | [], A, fl, h, _ => by simpa [Dv.execs] using h
 | o :: l, A, fl, h, hs => by
  have := ps_flushes l _ _ (h.flush (v := 0) (hs o List.mem_cons_self).1 (hs o List.mem_cons_self).2) fun x hx => hs x (List.mem_cons_of_mem _ hx)
  rw [List.append_assoc] at this; exact this
theorem execs_app (A : Dv) : ∀ (l m : List Ins), A.execs (l ++ m) = (A.execs l).execs m := by
 intro l
 induction l generalizing A with
 | nil => intro m; rfl
 | cons x l ih => intro m; exact ih _ m
theorem stP_rng {a : Nat} (ha : a < 30) {v : Nat → Int} (hv : ∀ i, i < 28 → 0 ≤ v i ∧ v i ≤ 18446744073709551615) : ∀ x, x ∈ stP a v → RngI x := by
 intro x hx
 unfold stP at hx
 rcases List.mem_append.1 hx with hx | hx
 ·rcases List.mem_append.1 hx with hx | hx
  ·obtain ⟨s, h1, rfl⟩ := List.mem_map.1 hx
   obtain ⟨i, h2, rfl⟩ := List.mem_map.1 h1
   have hi := List.mem_range.1 h2
   have := wO_def a i
   exact ⟨.inl rfl, by simp only [toS]; omega, hv i hi⟩
  ·obtain ⟨o, h1, rfl⟩ := List.mem_map.1 hx
   obtain ⟨i, h2, rfl⟩ := List.mem_map.1 (cpN_sub (lnL a) 28 (by rw [lnL_len]; omega) o h1)
   have hi := List.mem_range.1 h2
   have := wO_def a i
   exact ⟨.inr (.inl rfl), by simp only [toF]; omega, by simp [toF]⟩
 ·simp only [List.mem_singleton] at hx
  subst hx
  exact ⟨.inr (.inr rfl), by simp, by simp⟩
theorem init_node {a : Nat} (ha : a < 30) : ∃ ws, PS ((Dv.fresh 8 (List.replicate 64 0)).execs (stP a w0)) ws [] [] ∧ ws.length = 64 ∧ NW ws a [0] 0 ∧ entN (vw ws a) [0] = [(20, 1)] := by
 have hlen : (List.replicate 64 (0 : Int)).length = 64 := by simp
 have hwm : ∀ s, s ∈ wsI a w0 → WOff s.1 ∧ ∃ i, i < 28 ∧ s = (((wO a i : Nat) : Int), w0 i) := fun s hs => by
  obtain ⟨i, h2, rfl⟩ := List.mem_map.1 hs
  have hi := List.mem_range.1 h2
  have := wO_def a i
  exact ⟨⟨by simp only; omega, by simp only; omega, by simp only; omega⟩, i, hi, rfl⟩
 have h1 := ps_stores hlen (wsI a w0) _ _ init_ps fun s hs => (hwm s hs).1
 have hcm : ∀ o, o ∈ cpN (lnL a) 28 → 0 ≤ o ∧ o < 512 := fun o ho => by
  obtain ⟨i, h2, rfl⟩ := List.mem_map.1 (cpN_sub (lnL a) 28 (by rw [lnL_len]; omega) o ho)
  have hi := List.mem_range.1 h2
  have := wO_def a i
  omega
 have h2 := ps_flushes (cpN (lnL a) 28) _ _ h1 hcm
 have h3 := h2.fence hlen (o := 0) (v := 0) (fun s hs => (hwm s (by simpa using hs)).1.1) (fun s hs => by
  obtain ⟨_, i, hi, rfl⟩ := hwm s (by simpa using hs)
  have hm : (((64 * (wO a i / 64) : Nat) : Int)) ∈ cpN (lnL a) 28 := by
   refine cpN_mem _ 28 (by rw [lnL_len]; omega) _ ?_
   rw [List.take_of_length_le (by rw [lnL_len]; omega)]
   exact List.mem_map.2 ⟨i, List.mem_range.2 hi, rfl⟩
  refine ⟨wO a i / 64, ?_, by simp only; omega⟩
  rw [List.nil_append]
  exact List.mem_map.2 ⟨_, hm, by omega⟩)
 have e : (Dv.fresh 8 (List.replicate 64 0)).execs (stP a w0) = (((Dv.fresh 8 (List.replicate 64 0)).execs ((wsI a w0).map toS)).execs ((cpN (lnL a) 28).map toF)).exec (3, 0, 0) := by
  unfold stP; rw [execs_app, execs_app]; rfl
 rw [← e, List.nil_append] at h3
 have hat : ∀ i, i < 28 → vw (appL (List.replicate 64 0) (wsI a w0)) a i = w0 i := by
  intro i hi
  have key : ∀ m, i < m → m ≤ 28 → (appL (List.replicate 64 0) ((List.range m).map fun i => (((wO a i : Nat) : Int), w0 i))).getD (a + 1 + i) 0 = w0 i := by
   intro m
   induction m with
   | zero => intro h; omega
   | succ m ih =>
    intro h1 h2
    rw [List.range_succ, List.map_append, List.map_cons, List.map_nil, appL_app1, show (((wO a m : Nat) : Int) / 8).toNat = a + 1 + m by rw [wO_def]; omega, List.getD_eq_getElem?_getD, List.getElem?_set]
    by_cases e : m = i
    ·rw [if_pos (by omega), if_pos (by rw [appL_len]; simp; omega), e]; rfl
    ·rw [if_neg (by omega), ← List.getD_eq_getElem?_getD]; exact ih (by omega) (by omega)
  exact key 28 hi (Nat.le_refl _)
 have hw0 : ∀ i, w0 i = if i = 0 then 1 else if i = 4 then 20 else if i = 16 then 1 else 0 := fun _ => rfl
 refine ⟨_, h3, by rw [appL_len]; exact hlen, ⟨by rw [hat 0 (by omega)]; rfl, by rw [hat 1 (by omega)]; rfl, by rw [hat 2 (by omega)]; rfl, by rw [hat 3 (by omega)]; rfl, sl1, by simp, fun i hi => ?_⟩, ?_⟩
 ·rw [hat i hi, hw0]; split
  ·simp
  ·split
   ·simp
   ·split <;> simp
 ·show [(vw _ a 4, vw _ a 16)] = _
  rw [hat 4 (by omega), hat 16 (by omega)]; rfl
end Go.Proofs.YtegekpjkbedngaaGreat
namespace Go.Proofs.YtegekpjkbedngaaGreat
open Go Go.Ab
attribute [local irreducible] callK callF loopQ vstep vskip pickE hideP
set_option maxRecDepth 100000
def crD (A : Dv) (ks : List Nat) : Dv := Dv.fresh 8 (fW (crB A ks) 64 512)
theorem crD_wf (A : Dv) (ks : List Nat) : WF (crD A ks) := WF.fresh 8 _ (by decide) (by decide) (fW_len _ _ _)
theorem crD_cl (A : Dv) (ks : List Nat) : Cl (crD A ks) := ⟨rfl, rfl, rfl, fun _ => rfl⟩
structure Pack (A : Dv) (J : JT) (a : Nat) (last : Prop) (now next : List En) (d : List Nat) (H : Hs) : Prop where
 len : d.length = H.length
 h8 : H.length ≤ 8
 k0 : DgOk H (List.replicate H.length 0)
 ok : ∀ ks, DgOk H ks → DgOk H (nxR H ks H.length).1
 ex : ACalls Tryz.prog 44 [.loc 0 0] [deO A 1 2 3 4, peO A, cuO A, liO A J 12, thO A 0 0 20, thO A 1 0 20, thO A 2 0 20, thO A 3 0 20, thO A 4 0 20, thO A 5 0 20, thO A 6 0 20, thO A 7 0 20, hiO A J 0, hiO A J 1, hiO A J 2, hiO A J 3, hiO A J 4, hiO A J 5, hiO A J 6, hiO A J 7, noO A 0, noO A 1, noO A 2, noO A 3, noO A 4, noO A 5, noO A 6, noO A 7] (.p (eSet (byB A.per 512) d H)) [deO A 1 2 3 4, peO A, cuO A, liO A J 12, thO A 0 0 20, thO A 1 0 20, thO A 2 0 20, thO A 3 0 20, thO A 4 0 20, thO A 5 0 20, thO A 6 0 20, thO A 7 0 20, hiO A J 0, hiO A J 1, hiO A J 2, hiO A J 3, hiO A J 4, hiO A J 5, hiO A J 6, hiO A J 7, noO A 0, noO A 1, noO A 2, noO A 3, noO A 4, noO A 5, noO A 6, noO A 7]
 im : ∀ ks, DgOk H ks → PCalls Tryz.prog 45 [eSet (byB A.per 512) d H, .view 1 (ks.map eNd)] (eI (crB A ks))
 nx : ∀ ks, DgOk H ks → ACalls Tryz.prog 46 [.p (eSet (byB A.per 512) d H), .sl 0 1 0 H.length] [.arr 1 (ks.map eNd)] (.p (.v (.bool (nxR H ks H.length).2))) [.arr 1 ((nxR H ks H.length).1.map eNd)]
 dv : ∀ ks, ACalls Tryz.prog 20 [.p (eI (crB A ks))] [] (.tup [.loc 0 0, .p (.v (.int .i64 0))]) [deO (crD A ks) 1 2 3 4, peO (crD A ks), cuO (crD A ks), liO (crD A ks) J0 12, thO (crD A ks) 0 0 20, thO (crD A ks) 1 0 20, thO (crD A ks) 2 0 20, thO (crD A ks) 3 0 20, thO (crD A ks) 4 0 20, thO (crD A ks) 5 0 20, thO (crD A ks) 6 0 20, thO (crD A ks) 7 0 20, hiO (crD A ks) J0 0, hiO (crD A ks) J0 1, hiO (crD A ks) J0 2, hiO (crD A ks) J0 3, hiO (crD A ks) J0 4, hiO (crD A ks) J0 5, hiO (crD A ks) J0 6, hiO (crD A ks) J0 7, noO (crD A ks) 0, noO (crD A ks) 1, noO (crD A ks) 2, noO (crD A ks) 3, noO (crD A ks) 4, noO (crD A ks) 5, noO (crD A ks) 6, noO (crD A ks) 7]
 cl : ∀ ks, DgOk H ks → ∃ E, E.length ≤ 12 ∧ (E = next ∨ (¬ last ∧ E = now)) ∧ ACalls Tryz.prog 17 [.loc 0 0, .p (eP a)] [deO (crD A ks) 1 2 3 4, peO (crD A ks), cuO (crD A ks), liO (crD A ks) J0 12, thO (crD A ks) 0 0 20, thO (crD A ks) 1 0 20, thO (crD A ks) 2 0 20, thO (crD A ks) 3 0 20, thO (crD A ks) 4 0 20, thO (crD A ks) 5 0 20, thO (crD A ks) 6 0 20, thO (crD A ks) 7 0 20, hiO (crD A ks) J0 0, hiO (crD A ks) J0 1, hiO (crD A ks) J0 2, hiO (crD A ks) J0 3, hiO (crD A ks) J0 4, hiO (crD A ks) J0 5, hiO (crD A ks) J0 6, hiO (crD A ks) J0 7, noO (crD A ks) 0, noO (crD A ks) 1, noO (crD A ks) 2, noO (crD A ks) 3, noO (crD A ks) 4, noO (crD A ks) 5, noO (crD A ks) 6, noO (crD A ks) 7] (.tup [.p (.view 2 (E.map eWr)), .p (.v (.bool true))]) [deO (crD A ks) 1 2 3 4, peO (crD A ks), cuO (crD A ks), liO (crD A ks) J0 12, thO (crD A ks) 0 0 20, thO (crD A ks) 1 0 20, thO (crD A ks) 2 0 20, thO (crD A ks) 3 0 20, thO (crD A ks) 4 0 20, thO (crD A ks) 5 0 20, thO (crD A ks) 6 0 20, thO (crD A ks) 7 0 20, hiO (crD A ks) J0 0, hiO (crD A ks) J0 1, hiO (crD A ks) J0 2, hiO (crD A ks) J0 3, hiO (crD A ks) J0 4, hiO (crD A ks) J0 5, hiO (crD A ks) J0 6, hiO (crD A ks) J0 7, noO (crD A ks) 0, noO (crD A ks) 1, noO (crD A ks) 2, noO (crD A ks) 3, noO (crD A ks) 4, noO (crD A ks) 5, noO (crD A ks) 6, noO (crD A ks) 7]
theorem pack {A : Dv} {J : JT} {N a : Nat} {last : Prop} {now next : List En} (I : Inv A J N) (hN : N ≤ 1000000) (hg : Good A a last now next) (ha : a < 30) : ∃ d H, Pack A J a last now next d H := by
 have hw := I.wf
 have hn8 := hg.cl.n8
 have hlen : (hsL A (dirL A A.n).length).length = (dirL A A.n).length := hsL_len A (Nat.le_refl _)
 have hd8 : (dirL A A.n).length ≤ 8 := by have := dirL_len A A.n; rw [hn8] at this ⊢; exact this
 have hline : ∀ i, i < (hsL A (dirL A A.n).length).length → ∃ x, x < 8 ∧ (hsL A (dirL A A.n).length).getD i default = A.hist x := fun i hi => by
  rw [hlen] at hi
  have hx : (dirL A A.n).getD i default ∈ dirL A A.n := by rw [List.getD_eq_getElem?_getD, List.getElem?_eq_getElem hi]; exact List.getElem_mem hi
  exact ⟨_, Nat.lt_of_lt_of_eq (dirL_lt A hx) hn8, hsL_get A hi⟩
 have hll : ∀ i, i < (hsL A (dirL A A.n).length).length → ((hsL A (dirL A A.n).length).getD i default).length ≤ 1000000 := fun i hi => by
  obtain ⟨x, hx, e⟩ := hline i hi
  rw [e]
  have h1 := I.bd x hx
  have h2 := (hw.len x hx).1
  omega
 refine ⟨dirL A A.n, hsL A (dirL A A.n).length, hlen.symm, by rw [hlen]; exact hd8, ⟨by simp, fun i hi => ?_⟩, fun ks hk => nxR_ok _ _ hk, ?_, fun ks hk => ?_, fun ks hk => ?_, fun ks => ?_, fun ks hk => ?_⟩
 ·rw [List.getD_eq_getElem?_getD, List.getElem?_replicate, if_pos hi]; exact Nat.zero_le _
 ·have := kExam A J N I (by omega)
  rw [show byB A.per (64 * A.n) = byB A.per 512 by rw [hn8]] at this
  exact this
 ·have := kImage (byB A.per 512) (dirL A A.n) (hsL A (dirL A A.n).length) ks (by rw [hlen]; omega) (by rw [byB_len]; omega) hk.1 (fun i hi => ⟨hk.2 i hi, hll i hi⟩) (fun l hl s hs => by
   obtain ⟨i, hi, rfl⟩ := List.mem_iff_getElem.1 hl
   obtain ⟨x, hx, e⟩ := hline i hi
   rw [List.getD_eq_getElem?_getD, List.getElem?_eq_getElem hi] at e
   have e : (hsL A (dirL A A.n).length)[i] = A.hist x := e
   rw [e] at hs
   obtain ⟨⟨g1, g2, g3⟩, g4, g5⟩ := hw.hist x hx s hs
   rw [byB_len]
   exact ⟨g3, by omega, g4, g5⟩)
  rw [show imK (byB A.per 512) (hsL A (dirL A A.n).length) ks (hsL A (dirL A A.n).length).length = crB A ks from rfl, show newM (crB A ks) = crB A ks by unfold newM; rw [crB_len, if_pos (by decide)]] at this
  exact this
 ·exact kNext (byB A.per 512) (dirL A A.n) (hsL A (dirL A A.n).length) ks hk (by rw [hlen]; omega) hll
 ·have := kDevice (crB A ks) 8 (crB_len A ks) (by decide)
  rw [crB_len] at this
  exact this
 ·obtain ⟨E, ⟨h1, sl, c, h2, h3⟩, h4⟩ := crash_rds hw hg ha hk
  have k := kCLeaf (crD A ks) J0 ((crD_cl A ks).rd (crD_wf A ks) 5) a ha _ sl c (show NW (crD A ks).cur a sl c from h2).nd
  rw [show entN (vw (crD A ks).cur a) sl = E from h3] at k
  exact ⟨E, by rw [← h3, entN, List.length_map]; exact h2.so.2.2, h4, k⟩
end Go.Proofs.YtegekpjkbedngaaGreat
