/- Contracts of functions of this program, and the plain facts that they rest on. No conditions. -/
import Derived.Test.YtckhjklcfagkoaaGreatDoorRvTQ
import Derived.Test.YtckhjklcfagkoaaGreatDoorAc4
set_option linter.unusedSimpArgs false
set_option linter.unusedVariables false
namespace Go.Proofs.YtckhjklcfagkoaaGreatDoor
set_option maxHeartbeats 4000000
set_option maxRecDepth 100000
open Go Go.Ab
attribute [local irreducible] callK callF loopQ vstep vskip pickE hideP
attribute [local go_sem] e3 eU deO peO cuO liO thO hiO noO rdO rlO lns_len
theorem bDo2 (A : Dv) (J : JT) (M : MT) (N : Nat) (hI : Inv A J N) (hR : RInv A M N) (hN : N < 1000000) (x : E3) (R : Rng3 x) (hk7 : x.k % 7 = 2) : ACallsX Tryz.prog 30 [.loc 0 0, .loc 26 0, .p (e3 x)] (dvL A J ++ [rdO A M 27, rlO A]) (fun g : G3 (N + 1) => .p (.v (.bool true))) (fun g : G3 (N + 1) => [deO g.1.1 1 2 3 4, peO g.1.1, cuO g.1.1, liO g.1.1 g.1.2.1 28, thO g.1.1 0 0 18, thO g.1.1 1 0 18, thO g.1.1 2 0 18, thO g.1.1 3 0 18, thO g.1.1 4 0 18, thO g.1.1 5 0 18, thO g.1.1 6 0 18, thO g.1.1 7 0 18, .dead, .dead, .dead, .dead, .dead, .dead, noO g.1.1 0, noO g.1.1 1, noO g.1.1 2, noO g.1.1 3, noO g.1.1 4, noO g.1.1 5, noO g.1.1 6, noO g.1.1 7, rdO g.1.1 g.1.2.2 27, rlO g.1.1, hiO g.1.1 g.1.2.1 0, hiO g.1.1 g.1.2.1 1, hiO g.1.1 g.1.2.1 2, hiO g.1.1 g.1.2.1 3, hiO g.1.1 g.1.2.1 4, hiO g.1.1 g.1.2.1 5]) := by
 refine yC (E := E) (fn := Tryz.f30) 112 [.tmp 6] rfl rfl rfl rfl (by decide) rfl (fun _ => rfl) ?_
 obtain ⟨k, hk, hk2⟩ : ∃ k : Nat, k < 8 ∧ x.th % 8 = k := ⟨(x.th % 8).toNat, by omega, by omega⟩
 have m1 := bMod x.th 8 (by omega) R.th
 have m2 := bMod x.k 7 (by omega) R.k
 rw [hk2] at m1
 rw [hk7] at m2
 have kt := dThread6 A J k hk
 have hj := hI.jl (by omega)
 have k1 := tCAS6 A J k hk hI.wf hj x.o x.w x.v R.o R.v
 have k2 := rCAS A M k hk hR.wf hR.lo hR.cu x.o x.w x.v R.o
 have hI2 := fun g => hI.cas (w := x.w) (by omega) k R.o.1 R.v g
 have hR2 := hR.cas k R.o.1 (hI2 true).wf
 generalize A.cas k x.o x.w x.v = B at *
 repeat' ((fail_if_success (with_reducible show awp _ _ (Code.region 12 _ _) _ _)); first
  | (with_reducible first | apply zY | apply zT | apply zM | apply zN | apply zO | refine chk_ok (by kernel_rfl) ?_)
  | ((with_reducible first | apply zP | apply zQ | apply zR | apply zL) <;> intro h <;> try (exfalso; first | omega | exact h rfl | (revert h; decide) | (cases h; done)))
  | ((with_reducible show False); omega)
  | ((first | (with_reducible first | apply zW | apply zV | apply zU | apply zS | apply zX | show VX _ _ _ _ _ _ _ | show vstep _ _ _ _ _ | show vskip _ _ _ | show withV _ _) | ((with_reducible show endA _ _ _ _ _ _ _); simp -implicitDefEqProofs only [endA]) | (with_reducible first | refine zB default (by first | omega | (simp only [LN]; omega)) (by first | omega | (simp only [LN]; omega)) ?_ | refine zC default (by first | omega | (simp only [LN]; omega)) ?_ | refine And.intro (by first | decide | omega | assumption | (simp only [LN]; omega)) ?_) | ((with_reducible apply zD); (first | exact m1 | exact m2 | fail)) | ((with_reducible apply zE); (first | exact m1 | exact m2 | fail); rfl) | ((with_reducible apply zF); (first | exact m1 | exact m2 | fail)) | (with_reducible first | apply zG | apply zH | apply zI) | ((with_reducible apply zJ); (first | exact kt | fail)) | ((with_reducible show pickE _ _ _); first | refine zA _ ⟨by omega, by rfl⟩ ?_ | refine zA _ (by rfl) ?_) | fail); try simp -dsimp -implicitDefEqProofs (maxSteps := 1000000) (disch := first | omega | (simp only [LN]; omega)) only [go_sem])
  | fail)
 all_goals try omega
 refine r_dx7 [0, 1, 2, 3, 4, 5, 6, 7, 8, 9, 10, 11, 12, 13, 14, 15, 16, 17, 18, 19, 20, 21, 22, 23, 24, 25, 32, 33, 34, 35, 36, 37] (.p (.v (.bool (A.casB x.o x.w)))) ?_
 simp -dsimp -implicitDefEqProofs (maxSteps := 1000000) (disch := first | omega | (simp only [LN]; omega)) only [go_sem]
 repeat' (first
  | (with_reducible first | apply zY | apply zT | apply zM | apply zN | apply zO | refine chk_ok (by kernel_rfl) ?_)
  | ((with_reducible first | apply zP | apply zQ | apply zR | apply zL) <;> intro h <;> try (exfalso; first | omega | exact h rfl | (revert h; decide) | (cases h; done)))
  | ((with_reducible show False); omega)
  | ((first | (with_reducible first | apply zW | apply zV | apply zU | apply zS | apply zX | show VX _ _ _ _ _ _ _ | show vstep _ _ _ _ _ | show vskip _ _ _ | show withV _ _) | ((with_reducible show endA _ _ _ _ _ _ _); simp -implicitDefEqProofs only [endA]) | (with_reducible first | refine zB default (by first | omega | (simp only [LN]; omega)) (by first | omega | (simp only [LN]; omega)) ?_ | refine zC default (by first | omega | (simp only [LN]; omega)) ?_ | refine And.intro (by first | decide | omega | assumption | (simp only [LN]; omega)) ?_) | (with_reducible first | apply zG | apply zH | apply zI) | ((with_reducible apply zJ); (first | exact k2 | fail)) | ((with_reducible show pickE _ _ _); first | refine zA _ ⟨by omega, by rfl⟩ ?_ | refine zA _ (by rfl) ?_) | fail); try simp -dsimp -implicitDefEqProofs (maxSteps := 1000000) (disch := first | omega | (simp only [LN]; omega)) only [go_sem])
  | fail)
 refine dx_ok (by kernel_rfl) ?_
 simp -dsimp -implicitDefEqProofs (maxSteps := 1000000) (disch := first | omega | (simp only [LN]; omega)) only [go_sem]
 refine zK k1 fun gq => ?_
 simp -dsimp -implicitDefEqProofs (maxSteps := 1000000) (disch := first | omega | (simp only [LN]; omega)) only [go_sem]
 repeat' (first
  | (with_reducible first | apply zY | apply zT | apply zM | apply zN | apply zO | refine chk_ok (by kernel_rfl) ?_)
  | ((with_reducible first | apply zP | apply zQ | apply zR | apply zL) <;> intro h <;> try (exfalso; first | omega | exact h rfl | (revert h; decide) | (cases h; done)))
  | ((with_reducible show False); omega)
  | ((first | (with_reducible first | apply zW | apply zV | apply zU | apply zS | apply zX | show VX _ _ _ _ _ _ _ | show vstep _ _ _ _ _ | show vskip _ _ _ | show withV _ _) | ((with_reducible show endA _ _ _ _ _ _ _); simp -implicitDefEqProofs only [endA]) | (with_reducible first | refine zB default (by first | omega | (simp only [LN]; omega)) (by first | omega | (simp only [LN]; omega)) ?_ | refine zC default (by first | omega | (simp only [LN]; omega)) ?_ | refine And.intro (by first | decide | omega | assumption | (simp only [LN]; omega)) ?_) | ((with_reducible show pickE _ _ _); first | refine zA _ ⟨by omega, by rfl⟩ ?_ | refine zA _ (by rfl) ?_) | fail); try simp -dsimp -implicitDefEqProofs (maxSteps := 1000000) (disch := first | omega | (simp only [LN]; omega)) only [go_sem])
  | fail)
 all_goals first | omega | ((refine endX_i (⟨(B, jcas A J k x.o x.w gq, M), ⟨hI2 gq, hR2.le (by omega)⟩⟩) ?_; simp -implicitDefEqProofs only [endA]; (simp -dsimp -implicitDefEqProofs (maxSteps := 1000000) (disch := first | omega | (simp only [LN, beq_self_eq_true]; omega)) only [go_sem, beq_self_eq_true]; try trivial)))
theorem bDo (A : Dv) (J : JT) (M : MT) (N : Nat) (hI : Inv A J N) (hR : RInv A M N) (hN : N < 1000000) (x : E3) (R : Rng3 x) :
  ACallsX Tryz.prog 30 [.loc 0 0, .loc 26 0, .p (e3 x)] (dvL A J ++ [rdO A M 27, rlO A]) (fun _ : G3 (N + 1) => .p (.v (.bool true))) (fun g => [deO g.1.1 1 2 3 4, peO g.1.1, cuO g.1.1, liO g.1.1 g.1.2.1 28, thO g.1.1 0 0 18, thO g.1.1 1 0 18, thO g.1.1 2 0 18, thO g.1.1 3 0 18, thO g.1.1 4 0 18, thO g.1.1 5 0 18, thO g.1.1 6 0 18, thO g.1.1 7 0 18, .dead, .dead, .dead, .dead, .dead, .dead, noO g.1.1 0, noO g.1.1 1, noO g.1.1 2, noO g.1.1 3, noO g.1.1 4, noO g.1.1 5, noO g.1.1 6, noO g.1.1 7, rdO g.1.1 g.1.2.2 27, rlO g.1.1, hiO g.1.1 g.1.2.1 0, hiO g.1.1 g.1.2.1 1, hiO g.1.1 g.1.2.1 2, hiO g.1.1 g.1.2.1 3, hiO g.1.1 g.1.2.1 4, hiO g.1.1 g.1.2.1 5]) := by
 have h0 := Int.emod_nonneg x.k (show (7 : Int) ≠ 0 by decide)
 have h7 := Int.emod_lt_of_pos x.k (show (0 : Int) < 7 by decide)
 have hc : x.k % 7 = 0 ∨ x.k % 7 = 1 ∨ x.k % 7 = 2 ∨ x.k % 7 = 3 ∨ x.k % 7 = 4 ∨ x.k % 7 = 5 ∨ x.k % 7 = 6 := by omega
 rcases hc with e | e | e | e | e | e | e
 ·exact bDo0 A J M N hI hR hN x R e
 ·exact bDo1 A J M N hI hR hN x R e
 ·exact bDo2 A J M N hI hR hN x R e
 ·exact bDo3 A J M N hI hR hN x R e
 ·exact bDo4 A J M N hI hR hN x R e
 ·exact bDo5 A J M N hI hR hN x R e
 ·exact bDo6 A J M N hI hR hN x R e
end Go.Proofs.YtckhjklcfagkoaaGreatDoor
namespace Go.Proofs.YtckhjklcfagkoaaGreatDoor
set_option maxHeartbeats 4000000
set_option maxRecDepth 100000
open Go Go.Ab
attribute [local irreducible] callK callF loopQ vstep vskip pickE hideP
attribute [local go_sem] e3 eU deO peO cuO liO thO hiO noO rdO rlO lns_len
abbrev M0 : MT := fun _ => []
theorem Ok3.fresh (n : Nat) (h : 0 < n ∧ n ≤ 6) : Ok3 0 (Dv.fresh n (List.replicate (8 * n) 0), J0, M0) := by
 have hI := Inv.fresh n (List.replicate (8 * n) 0) h.1 h.2 (by simp)
 refine ⟨hI, RInv.fresh h hI.wf fun j => ?_⟩
 rw [List.getD_eq_getElem?_getD, List.getElem?_replicate]
 split <;> exact ⟨by decide, by decide⟩
theorem bBegin0 (a : Int) (ha : -9223372036854775808 ≤ a ∧ a ≤ 9223372036854775807) (n : Nat) (hn : (n : Int) = 1 + a % 6) : ACalls Tryz.prog 28 [.p (.v (.int .i64 a))] [] (.tup [.loc 0 0, .loc 26 0]) (dvL (Dv.fresh n (List.replicate (8 * n) 0)) J0 ++ [rdO (Dv.fresh n (List.replicate (8 * n) 0)) M0 27, rlO (Dv.fresh n (List.replicate (8 * n) 0))]) := by
 refine yA (E := E) (fn := Tryz.f28) 20 [.tmp 2, .tmp 3] rfl rfl rfl rfl (by decide) rfl rfl ?_
 have h6 := Int.emod_nonneg a (show (6 : Int) ≠ 0 by decide)
 have h7 := Int.emod_lt_of_pos a (show (0 : Int) < 6 by decide)
 have m1 := bMod a 6 (by omega) ha
 have k1 := dNew6 n (by omega)
 have k2 := rNew n (by omega)
 have e1 : IntKind.i64.wrap (1 + a % 6) = (n : Int) := by rw [IntKind.wrap_i64]; omega
 generalize Dv.fresh n (List.replicate (8 * n) 0) = A at *
 repeat' (first
  | (with_reducible first | apply zY | apply zT | apply zM | apply zN | apply zO | refine chk_ok (by kernel_rfl) ?_)
  | ((with_reducible first | apply zP | apply zQ | apply zR | apply zL) <;> intro h <;> try (exfalso; first | omega | exact h rfl | (revert h; decide) | (cases h; done)))
  | ((with_reducible show False); omega)
  | ((first | (with_reducible first | apply zW | apply zV | apply zU | apply zS | apply zX | show VX _ _ _ _ _ _ _ | show vstep _ _ _ _ _ | show vskip _ _ _ | show withV _ _) | ((with_reducible show endA _ _ _ _ _ _ _); simp -implicitDefEqProofs only [endA]) | (with_reducible first | refine zB default (by first | omega | (simp only [LN, e1]; omega)) (by first | omega | (simp only [LN, e1]; omega)) ?_ | refine zC default (by first | omega | (simp only [LN, e1]; omega)) ?_ | refine And.intro (by first | decide | omega | assumption | (simp only [LN, e1]; omega)) ?_) | ((with_reducible apply zD); (exact m1)) | ((with_reducible apply zE); (exact m1); rfl) | ((with_reducible apply zF); (exact m1)) | (with_reducible first | apply zG | apply zH | apply zI) | ((with_reducible apply zJ); (first | exact k1 | exact k2 | fail)) | ((with_reducible show pickE _ _ _); first | refine zA _ ⟨by omega, by rfl⟩ ?_ | refine zA _ (by rfl) ?_) | fail); try simp -dsimp -implicitDefEqProofs (maxSteps := 1000000) (disch := first | omega | (simp only [LN, e1]; omega)) only [go_sem, e1])
  | fail)
 all_goals first | omega
theorem bBegin (a : Int) (ha : -9223372036854775808 ≤ a ∧ a ≤ 9223372036854775807) : ∃ g : St3, Ok3 0 g ∧ ACalls Tryz.prog 28 [.p (.v (.int .i64 a))] [] (.tup [.loc 0 0, .loc 26 0]) (dvL g.1 g.2.1 ++ [rdO g.1 g.2.2 27, rlO g.1]) := by
 have h6 := Int.emod_nonneg a (show (6 : Int) ≠ 0 by decide)
 have h7 := Int.emod_lt_of_pos a (show (0 : Int) < 6 by decide)
 obtain ⟨n, hn⟩ : ∃ n : Nat, (n : Int) = 1 + a % 6 := ⟨(1 + a % 6).toNat, by omega⟩
 exact ⟨_, Ok3.fresh n (by omega), bBegin0 a ha n hn⟩
theorem Ok3.le {N N' : Nat} {g : St3} (h : Ok3 N g) (hN : N ≤ N') : Ok3 N' g := ⟨h.1.le hN, h.2.le hN⟩
theorem bPlay (a : Int) (ha : -9223372036854775808 ≤ a ∧ a ≤ 9223372036854775807) (l : List E3) (hl : l.length ≤ 140737488355328) (hR : ∀ x, x ∈ l → Rng3 x) (n : Nat) (hn : n ≤ 100) : ACallsX Tryz.prog 8 [.p (.agg [.v (.int .i64 a), .view 6 (l.map e3)]), .p (.v (.int .i64 n))] [] (fun g : G3 n => .tup [.loc 0 0, .loc 26 0]) (fun g : G3 n => (dvL g.1.1 g.1.2.1 ++ [rdO g.1.1 g.1.2.2 27, rlO g.1.1])) := by
 refine yC (E := E) (fn := Tryz.f8) 52 [.tmp 4, .tmp 5] rfl rfl rfl rfl (by decide) rfl (fun _ => rfl) ?_
 obtain ⟨⟨A0, J1, M1⟩, h0, kb⟩ := bBegin a ha
 have ks := bSame3 A0 J1 M1 0 h0.1 (by omega) h0.2
 simp only at kb
 repeat' (first
  | (with_reducible first | apply zY | apply zT | apply zM | apply zN | apply zO | refine chk_ok (by kernel_rfl) ?_)
  | ((with_reducible first | apply zP | apply zQ | apply zR | apply zL) <;> intro h <;> try (exfalso; first | omega | exact h rfl | (revert h; decide) | (cases h; done)))
  | ((with_reducible show False); omega)
  | ((first | (with_reducible first | apply zW | apply zV | apply zU | apply zS | apply zX | show VX _ _ _ _ _ _ _ | show vstep _ _ _ _ _ | show vskip _ _ _ | show withV _ _) | ((with_reducible show endA _ _ _ _ _ _ _); simp -implicitDefEqProofs only [endA]) | (with_reducible first | refine zB default (by first | omega | (simp only [LN]; omega)) (by first | omega | (simp only [LN]; omega)) ?_ | refine zC default (by first | omega | (simp only [LN]; omega)) ?_ | refine And.intro (by first | decide | omega | assumption | (simp only [LN]; omega)) ?_) | (with_reducible first | apply zG | apply zH | apply zI) | ((with_reducible apply zJ); (first | exact kb | exact ks | fail)) | ((with_reducible show pickE _ _ _); first | refine zA _ ⟨by omega, by rfl⟩ ?_ | refine zA _ (by rfl) ?_) | fail); try simp -dsimp -implicitDefEqProofs (maxSteps := 1000000) (disch := first | omega | (simp only [LN]; omega)) only [go_sem])
  | fail)
 refine r_loop (α := Nat × St3) (fun y => ⟨52, [(1, some (.p (.v (.int .i64 n)))), (2, some (.loc 28 0)), (6, some (.loc 0 0)), (7, some (.loc 26 0)), (8, some (.p (.v (.int .i64 y.1))))], someL (dvL y.2.1 y.2.2.1) ++ [some (rdO y.2.1 y.2.2.2 27), some (rlO y.2.1), some (.var [.p (.v (.int .i64 a)), .p (.view 6 (l.map e3))])]⟩)
  (fun y => (y.1 ≤ l.length ∧ y.1 ≤ n) ∧ Ok3 y.1 y.2) (fun y => l.length - y.1) (0, (A0, J1, M1)) ⟨⟨Nat.zero_le _, Nat.zero_le _⟩, h0⟩ ?_ ?_
 ·refine wk_auto ?_
  simp -dsimp -implicitDefEqProofs (maxSteps := 1000000) (disch := first | omega | (simp only [LN]; omega)) only [go_sem]
  trace_state
 ·rintro ⟨i, A, J, M⟩ ⟨⟨hi, hin⟩, hI, hRI⟩
  simp only at hi hin hI hRI
  have w3 : IntKind.i64.wrap ((i : Int) + 1) = ((i + 1 : Nat) : Int) := by rw [IntKind.wrap_i64]; push_cast; omega
  by_cases hlt : i < l.length ∧ i < n
  ·have hm : l.getD i default ∈ l := by rw [List.getD_eq_getElem?_getD, List.getElem?_eq_getElem hlt.1]; exact List.getElem_mem hlt.1
   have hRx := hR _ hm
   have kd := bDo A J M i hI hRI (by omega) (l.getD i default) hRx
   generalize hxx : l.getD i default = x at *
   repeat' (first
    | (with_reducible first | apply zY | apply zT | apply zM | apply zN | apply zO | refine chk_ok (by kernel_rfl) ?_)
    | ((with_reducible first | apply zP | apply zQ | apply zR | apply zL) <;> intro h <;> try (exfalso; first | omega | exact h rfl | (revert h; decide) | (cases h; done)))
    | ((with_reducible show False); omega)
    | ((with_reducible first | refine r_gr0 [31] (by with_unfolding_all exact rfl) ?_ | refine r_gr1 [31] (by with_unfolding_all exact rfl) ?_ | refine r_gr2 [31] (by with_unfolding_all exact rfl) ?_ | refine r_gr3 [31] (by with_unfolding_all exact rfl) ?_ | refine r_gr4 [31] (by with_unfolding_all exact rfl) ?_ | refine r_gr5 [31] (by with_unfolding_all exact rfl) ?_ | refine r_gr6 [31] (by with_unfolding_all exact rfl) ?_ | refine r_gr7 [31] (by with_unfolding_all exact rfl) ?_ | refine r_gr8 [31] (by with_unfolding_all exact rfl) ?_ | refine r_gr9 [31] (by with_unfolding_all exact rfl) ?_ | refine r_gr10 [31] (by with_unfolding_all exact rfl) ?_); simp -dsimp -implicitDefEqProofs (maxSteps := 1000000) (disch := first | omega | (simp only [LN, hxx]; omega)) only [go_sem, hxx])
    | ((first | (with_reducible first | apply zW | apply zV | apply zU | apply zS | apply zX | show VX _ _ _ _ _ _ _ | show vstep _ _ _ _ _ | show vskip _ _ _ | show withV _ _) | ((with_reducible show endA _ _ _ _ _ _ _); simp -implicitDefEqProofs only [endA]) | (with_reducible first | refine zB default (by first | omega | (simp only [LN, hxx]; omega)) (by first | omega | (simp only [LN, hxx]; omega)) ?_ | refine zC default (by first | omega | (simp only [LN, hxx]; omega)) ?_ | refine And.intro (by first | decide | omega | assumption | (simp only [LN, hxx]; omega)) ?_) | ((with_reducible apply zK); (first | exact kd | fail); intro gq) | ((with_reducible show pickE _ _ _); first | refine zA _ ⟨by omega, by rfl⟩ ?_ | refine zA _ (by rfl) ?_) | fail); try simp -dsimp -implicitDefEqProofs (maxSteps := 1000000) (disch := first | omega | (simp only [LN, hxx]; omega)) only [go_sem, hxx])
    | fail)
   all_goals try omega
   obtain ⟨⟨B, J2, M2⟩, hB⟩ := gq
   simp only at *
   have ks2 := bSame3 B J2 M2 (i + 1) hB.1 (by omega) hB.2
   repeat' (first
    | (with_reducible first | apply zY | apply zT | apply zM | apply zN | apply zO | refine chk_ok (by kernel_rfl) ?_)
    | ((with_reducible first | apply zP | apply zQ | apply zR | apply zL) <;> intro h <;> try (exfalso; first | omega | exact h rfl | (revert h; decide) | (cases h; done)))
    | ((with_reducible show False); omega)
    | ((first | (with_reducible first | apply zW | apply zV | apply zU | apply zS | apply zX | show VX _ _ _ _ _ _ _ | show vstep _ _ _ _ _ | show vskip _ _ _ | show withV _ _) | ((with_reducible show endA _ _ _ _ _ _ _); simp -implicitDefEqProofs only [endA]) | (with_reducible first | refine zB default (by first | omega | (simp only [LN, hxx, w3]; omega)) (by first | omega | (simp only [LN, hxx, w3]; omega)) ?_ | refine zC default (by first | omega | (simp only [LN, hxx, w3]; omega)) ?_ | refine And.intro (by first | decide | omega | assumption | (simp only [LN, hxx, w3]; omega)) ?_) | (with_reducible first | apply zG | apply zH | apply zI) | ((with_reducible apply zJ); (first | exact ks2 | fail)) | ((with_reducible show pickE _ _ _); first | refine zA _ ⟨by omega, by rfl⟩ ?_ | refine zA _ (by rfl) ?_) | fail); try simp -dsimp -implicitDefEqProofs (maxSteps := 1000000) (disch := first | omega | (simp only [LN, hxx, w3]; omega)) only [go_sem, hxx, w3])
    | fail)
   all_goals first | omega | ((refine zZ ((i + 1, B, J2, M2)) ?_ ?_ ?_; (exact ⟨⟨by show i + 1 ≤ _; omega, by show i + 1 ≤ _; omega⟩, hB⟩); (show _ < _; omega); (simp -dsimp -implicitDefEqProofs (maxSteps := 1000000) (disch := first | omega | (simp only [LN]; omega)) only [go_sem]; try trivial)))
  ·clear w3
   repeat' (first
    | (with_reducible first | apply zY | apply zT | apply zM | apply zN | apply zO | refine chk_ok (by kernel_rfl) ?_)
    | ((with_reducible first | apply zP | apply zQ | apply zR | apply zL) <;> intro h <;> try (exfalso; first | omega | exact h rfl | (revert h; decide) | (cases h; done)))
    | ((with_reducible show False); omega)
    | ((first | (with_reducible first | apply zW | apply zV | apply zU | apply zS | apply zX | show VX _ _ _ _ _ _ _ | show vstep _ _ _ _ _ | show vskip _ _ _ | show withV _ _) | ((with_reducible show endA _ _ _ _ _ _ _); simp -implicitDefEqProofs only [endA]) | (with_reducible first | refine zB default (by first | omega | (simp only [LN]; omega)) (by first | omega | (simp only [LN]; omega)) ?_ | refine zC default (by first | omega | (simp only [LN]; omega)) ?_ | refine And.intro (by first | decide | omega | assumption | (simp only [LN]; omega)) ?_) | ((with_reducible show pickE _ _ _); first | refine zA _ ⟨by omega, by rfl⟩ ?_ | refine zA _ (by rfl) ?_) | fail); try simp -dsimp -implicitDefEqProofs (maxSteps := 1000000) (disch := first | omega | (simp only [LN]; omega)) only [go_sem])
    | fail)
   all_goals first | omega | ((refine endX_i (⟨(A, J, M), Ok3.le ⟨hI, hRI⟩ hin⟩) ?_; simp -implicitDefEqProofs only [endA]; (simp -dsimp -implicitDefEqProofs (maxSteps := 1000000) (disch := first | omega | (simp only [LN]; omega)) only [go_sem]; try trivial)))
end Go.Proofs.YtckhjklcfagkoaaGreatDoor
