/- Contracts of functions of this program, and the plain facts that they rest on. No conditions. -/
import Derived.Test.YtlldhofcdfejnaaTpJQ
import Derived.Test.YtlldhofcdfejnaaDvUQ
import Derived.Test.YtlldhofcdfejnaaDvIQ
import Derived.Test.YtlldhofcdfejnaaDvRxQ
set_option linter.unusedSimpArgs false
set_option linter.unusedVariables false
namespace Go.Proofs.Ytlldhofcdfejnaa
open Go Go.Ab
attribute [local irreducible] callK callF loopQ vstep vskip pickE hideP
set_option maxRecDepth 100000
theorem store_n (A : Dv) (k : Nat) (o v : Int) : (A.store k o v).n = A.n := by
 unfold Dv.store; split
 ·exact (cnt_p A k _).1
 ·exact (cnt_p A k _).1
theorem flush_n (A : Dv) (k : Nat) (o : Int) : (A.flush k o).n = A.n := by
 unfold Dv.flush; split
 ·exact (cnt_p A k _).1
 ·exact (cnt_p A k _).1
theorem fence_n (A : Dv) (k : Nat) : (A.fence k).n = A.n := by
 unfold Dv.fence; split
 ·exact (cnt_p A k _).1
 ·exact (cnt_p A k _).1
theorem wb_n (A : Dv) (r k : Int) : (A.wb r k).n = A.n := by
 unfold Dv.wb; split <;> rfl
theorem Inv.persist {A : Dv} {J : Nat → List (Int × Int)} {N : Nat} (h : Inv A J N) {r k : Nat} (hr : r < A.n) (hk : k ≤ (A.hist r).length) : Inv (A.persist r k) (jper A J r k) N := by
 have hw := h.wf
 have h6 := hw.n6
 have hs : ∀ i, i < 6 → (A.persist r k).done i + ((A.persist r k).hist i).length = A.done i + (A.hist i).length := by
  intro i hi
  rw [per_done, per_hist]
  split
  ·rename_i e; subst e; rw [List.length_drop]; omega
  ·rfl
 have h0 : ∀ i, i < 6 → 0 ≤ A.done i := fun i hi => (hw.len i hi).1
 refine ⟨⟨hw.n0, hw.n6, ?_, hw.cur, ?_, ?_, ?_, trivial⟩, ?_, h.jo.persist h0 r k hk, ?_⟩
 ·show (appL A.per _).length = 8 * A.n; rw [appL_len]; exact hw.per
 ·intro i hi x hx
  rw [per_hist] at hx
  split at hx
  ·rename_i e; subst e; exact hw.hist i hi x (List.mem_of_mem_drop hx)
  ·exact hw.hist i hi x hx
 ·intro i h1 h2
  rw [per_hist, if_neg (by have : A.n ≤ i := h1; omega)]
  exact hw.top i h1 h2
 ·intro i hi
  have h1 := hs i hi
  have h2 := hw.len i hi
  refine ⟨?_, by omega⟩
  rw [per_done]; split
  ·rename_i e; subst e; omega
  ·exact h2.1
 ·intro q hq x v hx
  obtain ⟨i, h1, h2, h3, h4⟩ := h.no q hq x v hx
  exact ⟨i, h1, h2, h3, by have := hs i (by omega); omega⟩
 ·intro i hi
  have h1 := hs i hi
  have h2 := h.bd i hi
  omega
theorem Inv.wb {A : Dv} {J : Nat → List (Int × Int)} {N : Nat} (h : Inv A J N) (r k : Int) : Inv (A.wb r k) (jwb A J r k) N := by
 unfold Dv.wb jwb
 split
 ·rename_i hb
  simp only [Dv.wbB, Bool.and_eq_true, Bool.not_eq_true', decide_eq_true_eq] at hb
  exact h.persist (by omega) (by omega)
 ·exact h
structure BSt where
 k : Int
 th : Int
 w : Int
 v : Int
instance : Inhabited BSt := ⟨⟨0, 0, 0, 0⟩⟩
def eBS (x : BSt) : PV := .agg [.v (.int .u8 x.k), .v (.int .u8 x.th), .v (.int .u8 x.w), .v (.int .u64 x.v)]
structure RngB (x : BSt) : Prop where
 k : 0 ≤ x.k ∧ x.k ≤ 255
 th : 0 ≤ x.th ∧ x.th ≤ 255
 w : 0 ≤ x.w ∧ x.w ≤ 255
 v : 0 ≤ x.v ∧ x.v ≤ 18446744073709551615
abbrev St1 := Dv × (Nat → List (Int × Int))
def Ok1 (N : Nat) (g : St1) : Prop := Inv g.1 g.2 N ∧ g.1.n = 3
abbrev G1 (N : Nat) := { g : St1 // Ok1 N g }
theorem Ok1.le {N M : Nat} {g : St1} (h : Ok1 N g) (hM : N ≤ M) : Ok1 M g := ⟨h.1.le hM, h.2⟩
attribute [local go_sem] eBS eU deO peO cuO liO thO hiO noO
set_option maxRecDepth 100000 in
set_option maxHeartbeats 4000000 in
theorem bSteps (l : List BSt) (hl : l.length ≤ 140737488355328) (hR : ∀ x, x ∈ l → RngB x) : ACallsX Try.prog 4 [.p (.view 4 (l.map eBS))] [] (fun g : G1 12 => .loc 0 0) (fun g : G1 12 => [deO g.1.1 1 2 3 4, peO g.1.1, cuO g.1.1, liO g.1.1 g.1.2 12, thO g.1.1 0 0 18, thO g.1.1 1 0 18, thO g.1.1 2 0 18, thO g.1.1 3 0 18, thO g.1.1 4 0 18, thO g.1.1 5 0 18, thO g.1.1 6 0 18, thO g.1.1 7 0 18, hiO g.1.1 g.1.2 0, hiO g.1.1 g.1.2 1, hiO g.1.1 g.1.2 2, hiO g.1.1 g.1.2 3, hiO g.1.1 g.1.2 4, hiO g.1.1 g.1.2 5, noO g.1.1 0, noO g.1.1 1, noO g.1.1 2, noO g.1.1 3, noO g.1.1 4, noO g.1.1 5, noO g.1.1 6, noO g.1.1 7]) := by
 refine acallsx_of (E := E) (fn := Try.f4) 86 [.tmp 2] rfl rfl rfl rfl (by decide) rfl (fun _ => rfl) ?_
 have kn := dNew6 3 (by omega)
 have h0 : Ok1 0 (Dv.fresh 3 (List.replicate 24 0), J0) := ⟨Inv.fresh 3 (List.replicate 24 0) (by decide) (by decide) (by simp), rfl⟩
 rw [show 8 * 3 = 24 from rfl] at kn
 generalize Dv.fresh 3 (List.replicate 24 0) = A0 at *
 repeat' (first
  | (with_reducible first | refine r_seq ?_ | refine r_block ?_ | refine fork_not ?_ | refine fork_and ?_ | refine fork_or ?_ | refine chk_ok (by kernel_rfl) ?_)
  | ((with_reducible first | refine fork_dec ?_ ?_ | refine fork_eq ?_ ?_ | refine fork_ne ?_ ?_ | refine fork_intro ?_ ?_) <;> intro h <;> try (exfalso; first | omega | exact h rfl | (revert h; decide) | (cases h; done)))
  | ((with_reducible show False); omega)
  | ((first | (with_reducible first | refine r_exit ?_ | refine r_skip ?_ | refine r_cond ?_ | refine r_region ?_ | refine r_ret ?_ | show VX _ _ _ _ _ _ _ | show vstep _ _ _ _ _ | show vskip _ _ _ | show withV _ _) | ((with_reducible show endA _ _ _ _ _ _ _); simp -implicitDefEqProofs only [endA]) | (with_reducible first | refine pick_viewG default (by first | omega | (simp only [LN]; omega)) (by first | omega | (simp only [LN]; omega)) ?_ | refine pick_own default (by first | omega | (simp only [LN]; omega)) ?_ | refine And.intro (by first | decide | omega | assumption | (simp only [LN]; omega)) ?_) | (with_reducible first | apply callK_lent | apply callF_lent | apply hideP_own) | ((with_reducible apply callA_go); (first | exact kn | fail)) | ((with_reducible show pickE _ _ _); first | refine pickE_intro _ ⟨by omega, by rfl⟩ ?_ | refine pickE_intro _ (by rfl) ?_) | fail); try simp -dsimp -implicitDefEqProofs (maxSteps := 1000000) (disch := first | omega | (simp only [LN]; omega)) only [go_sem])
  | fail)
 refine r_loop (α := Nat × St1) (fun y => ⟨86, [(0, some (.p (.view 4 (l.map eBS)))), (3, some (.loc 0 0)), (5, some (.p (.v (.int .i64 y.1))))], [some (deO y.2.1 1 2 3 4), some (peO y.2.1), some (cuO y.2.1), some (liO y.2.1 y.2.2 12), some (thO y.2.1 0 0 18), some (thO y.2.1 1 0 18), some (thO y.2.1 2 0 18), some (thO y.2.1 3 0 18), some (thO y.2.1 4 0 18), some (thO y.2.1 5 0 18), some (thO y.2.1 6 0 18), some (thO y.2.1 7 0 18), some (hiO y.2.1 y.2.2 0), some (hiO y.2.1 y.2.2 1), some (hiO y.2.1 y.2.2 2), some (hiO y.2.1 y.2.2 3), some (hiO y.2.1 y.2.2 4), some (hiO y.2.1 y.2.2 5), some (noO y.2.1 0), some (noO y.2.1 1), some (noO y.2.1 2), some (noO y.2.1 3), some (noO y.2.1 4), some (noO y.2.1 5), some (noO y.2.1 6), some (noO y.2.1 7)]⟩)
  (fun y => (y.1 ≤ l.length ∧ y.1 ≤ 12) ∧ Ok1 y.1 y.2) (fun y => l.length - y.1) (0, (A0, J0)) ⟨⟨Nat.zero_le _, Nat.zero_le _⟩, h0⟩ ?_ ?_
 ·refine wk_auto ?_
  simp -dsimp -implicitDefEqProofs (maxSteps := 1000000) (disch := first | omega | (simp only [LN]; omega)) only [go_sem]
  trace_state
 ·rintro ⟨i, A, J⟩ ⟨⟨hi, hin⟩, hI, hn3⟩
  simp only at hi hin hI hn3
  by_cases hlt : i < l.length ∧ i < 12
  ·have hm : l.getD i default ∈ l := by rw [List.getD_eq_getElem?_getD, List.getElem?_eq_getElem hlt.1]; exact List.getElem_mem hlt.1
   obtain ⟨⟨Rk1, Rk2⟩, ⟨Rt1, Rt2⟩, ⟨Rw1, Rw2⟩, ⟨Rv1, Rv2⟩⟩ := hR _ hm
   generalize hxx : l.getD i default = x at *
   obtain ⟨k, hk, hk2⟩ : ∃ k : Nat, k < 3 ∧ x.th % 3 = k := ⟨(x.th % 3).toNat, by omega, by omega⟩
   obtain ⟨o, ho, ho2⟩ : ∃ o : Nat, o < 24 ∧ x.w % 24 = o := ⟨(x.w % 24).toNat, by omega, by omega⟩
   have w3 : IntKind.i64.wrap ((i : Int) + 1) = ((i + 1 : Nat) : Int) := by rw [IntKind.wrap_i64]; push_cast; omega
   have c1 : IntKind.i64.wrap x.th = x.th := i64w (by omega) (by omega)
   have c2 : x.th.tmod 3 = k := by rw [Int.tmod_eq_emod_of_nonneg Rt1, hk2]
   have c2b : IntKind.i64.wrap (k : Int) = k := i64w (by omega) (by omega)
   have c3 : x.w.tmod 24 = o := by rw [Int.tmod_eq_emod_of_nonneg Rw1, ho2]
   have c3b : IntKind.u8.wrap (o : Int) = o := by rw [wr8]; omega
   have c4 : IntKind.u64.wrap (o : Int) = o := by rw [wr64]; omega
   have c5 : IntKind.u64.wrap (8 * (o : Int)) = 8 * (o : Int) := by rw [wr64]; omega
   have c6 : x.k.tmod 8 = x.k % 8 := by rw [Int.tmod_eq_emod_of_nonneg Rk1]
   have c6b : IntKind.u8.wrap (x.k % 8) = x.k % 8 := by rw [wr8]; omega
   have c7 : (8 * (o : Int)).tdiv 64 = 8 * (o : Int) / 64 := by rw [Int.tdiv_eq_ediv_of_nonneg (by omega)]
   have c7b : IntKind.u64.wrap (8 * (o : Int) / 64) = 8 * (o : Int) / 64 := by rw [wr64]; omega
   have c7c : IntKind.i64.wrap (8 * (o : Int) / 64) = 8 * (o : Int) / 64 := i64w (by omega) (by omega)
   have c8 : x.v.tmod 4 = x.v % 4 := by rw [Int.tmod_eq_emod_of_nonneg Rv1]
   have c8b : IntKind.u64.wrap (x.v % 4) = x.v % 4 := by rw [wr64]; omega
   have c8c : IntKind.i64.wrap (x.v % 4) = x.v % 4 := i64w (by omega) (by omega)
   have c9 : x.v.tmod 3 = x.v % 3 := by rw [Int.tmod_eq_emod_of_nonneg Rv1]
   have c9b : IntKind.u64.wrap (x.v % 3) = x.v % 3 := by rw [wr64]; omega
   have kt := dThread6 A J k (by omega)
   have hj := hI.jl (by omega)
   by_cases h5 : x.k % 8 = 5
   ·rw [h5] at c6 c6b
    have k1 := tFlush A J k (by omega) hI.wf (8 * (o : Int)) (by omega)
    have hI2 := hI.flush k (show 0 ≤ 8 * (o : Int) by omega)
    have hB3 := flush_n A k (8 * (o : Int))
    generalize A.flush k (8 * (o : Int)) = B at *
    repeat' (first
     | (with_reducible first | refine r_seq ?_ | refine r_block ?_ | refine fork_not ?_ | refine fork_and ?_ | refine fork_or ?_ | refine chk_ok (by kernel_rfl) ?_)
     | ((with_reducible first | refine fork_dec ?_ ?_ | refine fork_eq ?_ ?_ | refine fork_ne ?_ ?_ | refine fork_intro ?_ ?_) <;> intro h <;> try (exfalso; first | omega | exact h rfl | (revert h; decide) | (cases h; done)))
     | ((with_reducible show False); omega)
     | ((first | (with_reducible first | refine r_exit ?_ | refine r_skip ?_ | refine r_cond ?_ | refine r_region ?_ | refine r_ret ?_ | show VX _ _ _ _ _ _ _ | show vstep _ _ _ _ _ | show vskip _ _ _ | show withV _ _) | ((with_reducible show endA _ _ _ _ _ _ _); simp -implicitDefEqProofs only [endA]) | (with_reducible first | refine pick_viewG default (by first | omega | (simp only [LN, hxx, w3, c1, c2, c2b, c3, c3b, c4, c5, c6, c6b]; omega)) (by first | omega | (simp only [LN, hxx, w3, c1, c2, c2b, c3, c3b, c4, c5, c6, c6b]; omega)) ?_ | refine pick_own default (by first | omega | (simp only [LN, hxx, w3, c1, c2, c2b, c3, c3b, c4, c5, c6, c6b]; omega)) ?_ | refine And.intro (by first | decide | omega | assumption | (simp only [LN, hxx, w3, c1, c2, c2b, c3, c3b, c4, c5, c6, c6b]; omega)) ?_) | (with_reducible first | apply callK_lent | apply callF_lent | apply hideP_own) | ((with_reducible apply callA_go); (first | exact kt | exact k1 | fail)) | ((with_reducible show pickE _ _ _); first | refine pickE_intro _ ⟨by omega, by rfl⟩ ?_ | refine pickE_intro _ (by rfl) ?_) | fail); try simp -dsimp -implicitDefEqProofs (maxSteps := 1000000) (disch := first | omega | (simp only [LN, hxx, w3, c1, c2, c2b, c3, c3b, c4, c5, c6, c6b]; omega)) only [go_sem, hxx, w3, c1, c2, c2b, c3, c3b, c4, c5, c6, c6b])
     | fail)
    all_goals ((refine loopQ_next ((i + 1, B, J)) ?_ ?_ ?_; (exact ⟨⟨by show i + 1 ≤ _; omega, by show i + 1 ≤ _; omega⟩, hI2.le (by omega), by show B.n = 3; omega⟩); (show _ < _; omega); (simp -dsimp -implicitDefEqProofs (maxSteps := 1000000) (disch := first | omega | (simp only [LN]; omega)) only [go_sem]; try trivial)))
   ·by_cases h6 : x.k % 8 = 6
    ·rw [h6] at c6 c6b
     have hno := hI.no k (by omega)
     have k1 := tFence A J k (by omega) hI.wf hno hI.jo
     have hI2 := fun J2 hj2 => hI.fence (J2 := J2) k (by omega) hj2
     have hB3 := fence_n A k
     generalize A.fence k = B at *
     repeat' (first
      | (with_reducible first | refine r_seq ?_ | refine r_block ?_ | refine fork_not ?_ | refine fork_and ?_ | refine fork_or ?_ | refine chk_ok (by kernel_rfl) ?_)
      | ((with_reducible first | refine fork_dec ?_ ?_ | refine fork_eq ?_ ?_ | refine fork_ne ?_ ?_ | refine fork_intro ?_ ?_) <;> intro h <;> try (exfalso; first | omega | exact h rfl | (revert h; decide) | (cases h; done)))
      | ((with_reducible show False); omega)
      | ((with_reducible first | refine r_gr0 [17] (by with_unfolding_all exact rfl) ?_ | refine r_gr1 [17] (by with_unfolding_all exact rfl) ?_ | refine r_gr2 [17] (by with_unfolding_all exact rfl) ?_ | refine r_gr3 [17] (by with_unfolding_all exact rfl) ?_ | refine r_gr4 [17] (by with_unfolding_all exact rfl) ?_ | refine r_gr5 [17] (by with_unfolding_all exact rfl) ?_ | refine r_gr6 [17] (by with_unfolding_all exact rfl) ?_ | refine r_gr7 [17] (by with_unfolding_all exact rfl) ?_ | refine r_gr8 [17] (by with_unfolding_all exact rfl) ?_ | refine r_gr9 [17] (by with_unfolding_all exact rfl) ?_ | refine r_gr10 [17] (by with_unfolding_all exact rfl) ?_); simp -dsimp -implicitDefEqProofs (maxSteps := 1000000) (disch := first | omega | (simp only [LN, hxx, w3, c1, c2, c2b, c3, c3b, c4, c5, c6, c6b]; omega)) only [go_sem, hxx, w3, c1, c2, c2b, c3, c3b, c4, c5, c6, c6b])
      | ((first | (with_reducible first | refine r_exit ?_ | refine r_skip ?_ | refine r_cond ?_ | refine r_region ?_ | refine r_ret ?_ | show VX _ _ _ _ _ _ _ | show vstep _ _ _ _ _ | show vskip _ _ _ | show withV _ _) | ((with_reducible show endA _ _ _ _ _ _ _); simp -implicitDefEqProofs only [endA]) | (with_reducible first | refine pick_viewG default (by first | omega | (simp only [LN, hxx, w3, c1, c2, c2b, c3, c3b, c4, c5, c6, c6b]; omega)) (by first | omega | (simp only [LN, hxx, w3, c1, c2, c2b, c3, c3b, c4, c5, c6, c6b]; omega)) ?_ | refine pick_own default (by first | omega | (simp only [LN, hxx, w3, c1, c2, c2b, c3, c3b, c4, c5, c6, c6b]; omega)) ?_ | refine And.intro (by first | decide | omega | assumption | (simp only [LN, hxx, w3, c1, c2, c2b, c3, c3b, c4, c5, c6, c6b]; omega)) ?_) | (with_reducible first | apply callK_lent | apply callF_lent | apply hideP_own) | ((with_reducible apply callA_go); (first | exact kt | fail)) | ((with_reducible apply callX_go); (first | exact k1 | fail); intro gq) | ((with_reducible show pickE _ _ _); first | refine pickE_intro _ ⟨by omega, by rfl⟩ ?_ | refine pickE_intro _ (by rfl) ?_) | fail); try simp -dsimp -implicitDefEqProofs (maxSteps := 1000000) (disch := first | omega | (simp only [LN, hxx, w3, c1, c2, c2b, c3, c3b, c4, c5, c6, c6b]; omega)) only [go_sem, hxx, w3, c1, c2, c2b, c3, c3b, c4, c5, c6, c6b])
      | fail)
     all_goals first | omega | ((refine loopQ_next ((i + 1, B, gq.1)) ?_ ?_ ?_; (exact ⟨⟨by show i + 1 ≤ _; omega, by show i + 1 ≤ _; omega⟩, (hI2 gq.1 gq.2).le (by omega), by show B.n = 3; omega⟩); (show _ < _; omega); (simp -dsimp -implicitDefEqProofs (maxSteps := 1000000) (disch := first | omega | (simp only [LN]; omega)) only [go_sem]; try trivial)))
    ·by_cases h7 : x.k % 8 = 7
     ·rw [h7] at c6 c6b
      have k1 := dWriteBack6 A J hI.wf hj (8 * (o : Int) / 64) (x.v % 4)
      have hI2 := hI.wb (8 * (o : Int) / 64) (x.v % 4)
      have hB3 := wb_n A (8 * (o : Int) / 64) (x.v % 4)
      generalize A.wb (8 * (o : Int) / 64) (x.v % 4) = B at *
      generalize jwb A J (8 * (o : Int) / 64) (x.v % 4) = J2 at *
      repeat' (first
       | (with_reducible first | refine r_seq ?_ | refine r_block ?_ | refine fork_not ?_ | refine fork_and ?_ | refine fork_or ?_ | refine chk_ok (by kernel_rfl) ?_)
       | ((with_reducible first | refine fork_dec ?_ ?_ | refine fork_eq ?_ ?_ | refine fork_ne ?_ ?_ | refine fork_intro ?_ ?_) <;> intro h <;> try (exfalso; first | omega | exact h rfl | (revert h; decide) | (cases h; done)))
       | ((with_reducible show False); omega)
       | ((first | (with_reducible first | refine r_exit ?_ | refine r_skip ?_ | refine r_cond ?_ | refine r_region ?_ | refine r_ret ?_ | show VX _ _ _ _ _ _ _ | show vstep _ _ _ _ _ | show vskip _ _ _ | show withV _ _) | ((with_reducible show endA _ _ _ _ _ _ _); simp -implicitDefEqProofs only [endA]) | (with_reducible first | refine pick_viewG default (by first | omega | (simp only [LN, hxx, w3, c1, c2, c2b, c3, c3b, c4, c5, c6, c6b, c7, c7b, c7c, c8, c8b, c8c]; omega)) (by first | omega | (simp only [LN, hxx, w3, c1, c2, c2b, c3, c3b, c4, c5, c6, c6b, c7, c7b, c7c, c8, c8b, c8c]; omega)) ?_ | refine pick_own default (by first | omega | (simp only [LN, hxx, w3, c1, c2, c2b, c3, c3b, c4, c5, c6, c6b, c7, c7b, c7c, c8, c8b, c8c]; omega)) ?_ | refine And.intro (by first | decide | omega | assumption | (simp only [LN, hxx, w3, c1, c2, c2b, c3, c3b, c4, c5, c6, c6b, c7, c7b, c7c, c8, c8b, c8c]; omega)) ?_) | (with_reducible first | apply callK_lent | apply callF_lent | apply hideP_own) | ((with_reducible apply callA_go); (first | exact kt | exact k1 | fail)) | ((with_reducible show pickE _ _ _); first | refine pickE_intro _ ⟨by omega, by rfl⟩ ?_ | refine pickE_intro _ (by rfl) ?_) | fail); try simp -dsimp -implicitDefEqProofs (maxSteps := 1000000) (disch := first | omega | (simp only [LN, hxx, w3, c1, c2, c2b, c3, c3b, c4, c5, c6, c6b, c7, c7b, c7c, c8, c8b, c8c]; omega)) only [go_sem, hxx, w3, c1, c2, c2b, c3, c3b, c4, c5, c6, c6b, c7, c7b, c7c, c8, c8b, c8c])
       | fail)
      all_goals first | omega | ((refine loopQ_next ((i + 1, B, J2)) ?_ ?_ ?_; (exact ⟨⟨by show i + 1 ≤ _; omega, by show i + 1 ≤ _; omega⟩, hI2.le (by omega), by show B.n = 3; omega⟩); (show _ < _; omega); (simp -dsimp -implicitDefEqProofs (maxSteps := 1000000) (disch := first | omega | (simp only [LN]; omega)) only [go_sem]; try trivial)))
     ·have n5 : ¬ (x.k % 8 = 5) := h5
      have n6 : ¬ (x.k % 8 = 6) := h6
      have n7 : ¬ (x.k % 8 = 7) := h7
      have k1 := tStore A J k (by omega) hI.wf hj (8 * (o : Int)) (x.v % 3) (by omega) (by omega)
      have hI2 := fun g => hI.store (by omega) k (show 0 ≤ 8 * (o : Int) by omega) (show 0 ≤ x.v % 3 ∧ x.v % 3 ≤ 18446744073709551615 by omega) g
      have hB3 := store_n A k (8 * (o : Int)) (x.v % 3)
      generalize A.store k (8 * (o : Int)) (x.v % 3) = B at *
      repeat' (first
       | (with_reducible first | refine r_seq ?_ | refine r_block ?_ | refine fork_not ?_ | refine fork_and ?_ | refine fork_or ?_ | refine chk_ok (by kernel_rfl) ?_)
       | ((with_reducible first | refine fork_dec ?_ ?_ | refine fork_eq ?_ ?_ | refine fork_ne ?_ ?_ | refine fork_intro ?_ ?_) <;> intro h <;> try (exfalso; first | omega | exact h rfl | (revert h; decide) | (cases h; done)))
       | ((with_reducible show False); omega)
       | ((with_reducible first | refine r_gr0 [19] (by with_unfolding_all exact rfl) ?_ | refine r_gr1 [19] (by with_unfolding_all exact rfl) ?_ | refine r_gr2 [19] (by with_unfolding_all exact rfl) ?_ | refine r_gr3 [19] (by with_unfolding_all exact rfl) ?_ | refine r_gr4 [19] (by with_unfolding_all exact rfl) ?_ | refine r_gr5 [19] (by with_unfolding_all exact rfl) ?_ | refine r_gr6 [19] (by with_unfolding_all exact rfl) ?_ | refine r_gr7 [19] (by with_unfolding_all exact rfl) ?_ | refine r_gr8 [19] (by with_unfolding_all exact rfl) ?_ | refine r_gr9 [19] (by with_unfolding_all exact rfl) ?_ | refine r_gr10 [19] (by with_unfolding_all exact rfl) ?_); simp -dsimp -implicitDefEqProofs (maxSteps := 1000000) (disch := first | omega | (simp only [LN, hxx, w3, c1, c2, c2b, c3, c3b, c4, c5, c6, c6b, c9, c9b, n5, n6, n7]; omega)) only [go_sem, hxx, w3, c1, c2, c2b, c3, c3b, c4, c5, c6, c6b, c9, c9b, n5, n6, n7])
       | ((first | (with_reducible first | refine r_exit ?_ | refine r_skip ?_ | refine r_cond ?_ | refine r_region ?_ | refine r_ret ?_ | show VX _ _ _ _ _ _ _ | show vstep _ _ _ _ _ | show vskip _ _ _ | show withV _ _) | ((with_reducible show endA _ _ _ _ _ _ _); simp -implicitDefEqProofs only [endA]) | (with_reducible first | refine pick_viewG default (by first | omega | (simp only [LN, hxx, w3, c1, c2, c2b, c3, c3b, c4, c5, c6, c6b, c9, c9b, n5, n6, n7]; omega)) (by first | omega | (simp only [LN, hxx, w3, c1, c2, c2b, c3, c3b, c4, c5, c6, c6b, c9, c9b, n5, n6, n7]; omega)) ?_ | refine pick_own default (by first | omega | (simp only [LN, hxx, w3, c1, c2, c2b, c3, c3b, c4, c5, c6, c6b, c9, c9b, n5, n6, n7]; omega)) ?_ | refine And.intro (by first | decide | omega | assumption | (simp only [LN, hxx, w3, c1, c2, c2b, c3, c3b, c4, c5, c6, c6b, c9, c9b, n5, n6, n7]; omega)) ?_) | (with_reducible first | apply callK_lent | apply callF_lent | apply hideP_own) | ((with_reducible apply callA_go); (first | exact kt | fail)) | ((with_reducible apply callX_go); (first | exact k1 | fail); intro gq) | ((with_reducible show pickE _ _ _); first | refine pickE_intro _ ⟨by omega, by rfl⟩ ?_ | refine pickE_intro _ (by rfl) ?_) | fail); try simp -dsimp -implicitDefEqProofs (maxSteps := 1000000) (disch := first | omega | (simp only [LN, hxx, w3, c1, c2, c2b, c3, c3b, c4, c5, c6, c6b, c9, c9b, n5, n6, n7]; omega)) only [go_sem, hxx, w3, c1, c2, c2b, c3, c3b, c4, c5, c6, c6b, c9, c9b, n5, n6, n7])
       | fail)
      all_goals first | omega | ((refine loopQ_next ((i + 1, B, jsto A J k (8 * (o : Int)) gq)) ?_ ?_ ?_; (exact ⟨⟨by show i + 1 ≤ _; omega, by show i + 1 ≤ _; omega⟩, hI2 gq, by show B.n = 3; omega⟩); (show _ < _; omega); (simp -dsimp -implicitDefEqProofs (maxSteps := 1000000) (disch := first | omega | (simp only [LN]; omega)) only [go_sem]; try trivial)))
  ·repeat' (first
    | (with_reducible first | refine r_seq ?_ | refine r_block ?_ | refine fork_not ?_ | refine fork_and ?_ | refine fork_or ?_ | refine chk_ok (by kernel_rfl) ?_)
    | ((with_reducible first | refine fork_dec ?_ ?_ | refine fork_eq ?_ ?_ | refine fork_ne ?_ ?_ | refine fork_intro ?_ ?_) <;> intro h <;> try (exfalso; first | omega | exact h rfl | (revert h; decide) | (cases h; done)))
    | ((with_reducible show False); omega)
    | ((first | (with_reducible first | refine r_exit ?_ | refine r_skip ?_ | refine r_cond ?_ | refine r_region ?_ | refine r_ret ?_ | show VX _ _ _ _ _ _ _ | show vstep _ _ _ _ _ | show vskip _ _ _ | show withV _ _) | ((with_reducible show endA _ _ _ _ _ _ _); simp -implicitDefEqProofs only [endA]) | (with_reducible first | refine pick_viewG default (by first | omega | (simp only [LN]; omega)) (by first | omega | (simp only [LN]; omega)) ?_ | refine pick_own default (by first | omega | (simp only [LN]; omega)) ?_ | refine And.intro (by first | decide | omega | assumption | (simp only [LN]; omega)) ?_) | ((with_reducible show pickE _ _ _); first | refine pickE_intro _ ⟨by omega, by rfl⟩ ?_ | refine pickE_intro _ (by rfl) ?_) | fail); try simp -dsimp -implicitDefEqProofs (maxSteps := 1000000) (disch := first | omega | (simp only [LN]; omega)) only [go_sem])
    | fail)
   all_goals first | omega | ((refine endX_i (⟨(A, J), Ok1.le ⟨hI, hn3⟩ hin⟩) ?_; simp -implicitDefEqProofs only [endA]; (simp -dsimp -implicitDefEqProofs (maxSteps := 1000000) (disch := first | omega | (simp only [LN]; omega)) only [go_sem]; try trivial)))
end Go.Proofs.Ytlldhofcdfejnaa