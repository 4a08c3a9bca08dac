/- Contracts of functions of this program, and the plain facts that they rest on. No conditions. -/
import Derived.Test.YtckhjklcfagkoaaGreatDoorRvSQ
set_option linter.unusedSimpArgs false
set_option linter.unusedVariables false
namespace Go.Proofs.YtckhjklcfagkoaaGreatDoor
set_option maxHeartbeats 4000000
set_option maxRecDepth 100000
open Go Go.Ab
attribute [local irreducible] callK callF loopQ vstep vskip pickE hideP
structure E3 where
 k : Int
 th : Int
 o : Int
 w : Int
 v : Int
 n : Int
instance : Inhabited E3 := ⟨⟨0, 0, 0, 0, 0, 0⟩⟩
def e3 (x : E3) : PV := .agg [.v (.int .i64 x.k), .v (.int .i64 x.th), .v (.int .u64 x.o), .v (.int .u64 x.w), .v (.int .u64 x.v), .v (.int .i64 x.n)]
structure Rng3 (x : E3) : Prop where
 k : -9223372036854775808 ≤ x.k ∧ x.k ≤ 9223372036854775807
 th : -9223372036854775808 ≤ x.th ∧ x.th ≤ 9223372036854775807
 o : 0 ≤ x.o ∧ x.o ≤ 18446744073709551615
 w : 0 ≤ x.w ∧ x.w ≤ 18446744073709551615
 v : 0 ≤ x.v ∧ x.v ≤ 18446744073709551615
 n : -9223372036854775808 ≤ x.n ∧ x.n ≤ 9223372036854775807
theorem Inv.onS {A : Dv} {J : JT} {N : Nat} (h : Inv A J N) (k : Nat) (v : Bool) : Inv (A.onS k v) J N := by
 by_cases hv : (!A.off && v) = true
 ·rw [onS_t hv]; exact h
 ·simp only [Bool.not_eq_true] at hv
  rw [← cnt_f hv]; exact h.cnt k v
theorem RInv.onS {A : Dv} {M : MT} {N : Nat} (h : RInv A M N) (k : Nat) (v : Bool) : RInv (A.onS k v) M N := by
 by_cases hv : (!A.off && v) = true
 ·rw [onS_t hv]; exact h
 ·simp only [Bool.not_eq_true] at hv
  rw [← cnt_f hv]; exact h.cnt k v
abbrev St3 := Dv × (JT) × (MT)
def Ok3 (N : Nat) (g : St3) : Prop := Inv g.1 g.2.1 N ∧ RInv g.1 g.2.2 N
abbrev G3 (N : Nat) := { g : St3 // Ok3 N g }
attribute [local go_sem] e3 eU deO peO cuO liO thO hiO noO rdO rlO lns_len
theorem bDo0 (A : Dv) (J : JT) (M : MT) (N : Nat) (hI : Inv A J N) (hR : RInv A M N) (hN : N < 1000000) (x : E3) (R : Rng3 x) (hk7 : x.k % 7 = 0) : ACallsX Tryz.prog 30 [.loc 0 0, .loc 26 0, .p (e3 x)] (dvL A J ++ [rdO A M 27, rlO A]) (fun g : G3 (N + 1) => .p (.v (.bool true))) (fun g : G3 (N + 1) => [deO g.1.1 1 2 3 4, peO g.1.1, cuO g.1.1, liO g.1.1 g.1.2.1 28, thO g.1.1 0 0 18, thO g.1.1 1 0 18, thO g.1.1 2 0 18, thO g.1.1 3 0 18, thO g.1.1 4 0 18, thO g.1.1 5 0 18, thO g.1.1 6 0 18, thO g.1.1 7 0 18, .dead, .dead, .dead, .dead, .dead, .dead, noO g.1.1 0, noO g.1.1 1, noO g.1.1 2, noO g.1.1 3, noO g.1.1 4, noO g.1.1 5, noO g.1.1 6, noO g.1.1 7, rdO g.1.1 g.1.2.2 27, rlO g.1.1, hiO g.1.1 g.1.2.1 0, hiO g.1.1 g.1.2.1 1, hiO g.1.1 g.1.2.1 2, hiO g.1.1 g.1.2.1 3, hiO g.1.1 g.1.2.1 4, hiO g.1.1 g.1.2.1 5]) := by
 refine yC (E := E) (fn := Tryz.f30) 112 [.tmp 6] rfl rfl rfl rfl (by decide) rfl (fun _ => rfl) ?_
 obtain ⟨k, hk, hk2⟩ : ∃ k : Nat, k < 8 ∧ x.th % 8 = k := ⟨(x.th % 8).toNat, by omega, by omega⟩
 have m1 := bMod x.th 8 (by omega) R.th
 have m2 := bMod x.k 7 (by omega) R.k
 rw [hk2] at m1
 rw [hk7] at m2
 have kt := dThread6 A J k hk
 have k1 := tLoad6 A J k hk hI.wf x.o R.o
 have k2 := rLoad A M k hk hR.wf hR.cu x.o R.o
 have hI2 := hI.onS k (A.isW x.o)
 have hR2 := hR.onS k (A.isW x.o)
 generalize A.onS k (A.isW x.o) = B at *
 repeat' (first
  | (with_reducible first | apply zY | apply zT | apply zM | apply zN | apply zO | refine chk_ok (by rcases lt8 hk with rfl | rfl | rfl | rfl | rfl | rfl | rfl | rfl <;> kernel_rfl) ?_)
  | ((with_reducible first | apply zP | apply zQ | apply zR | apply zL) <;> intro h <;> try (exfalso; first | omega | exact h rfl | (revert h; decide) | (cases h; done)))
  | ((with_reducible show False); omega)
  | ((first | (with_reducible first | apply zW | apply zV | apply zU | apply zS | apply zX | show VX _ _ _ _ _ _ _ | show vstep _ _ _ _ _ | show vskip _ _ _ | show withV _ _) | ((with_reducible show endA _ _ _ _ _ _ _); simp -implicitDefEqProofs only [endA]) | (with_reducible first | refine zB default (by first | omega | (simp only [LN]; omega)) (by first | omega | (simp only [LN]; omega)) ?_ | refine zC default (by first | omega | (simp only [LN]; omega)) ?_ | refine And.intro (by first | decide | omega | assumption | (simp only [LN]; omega)) ?_) | ((with_reducible apply zD); (first | exact m1 | exact m2 | fail)) | ((with_reducible apply zE); (first | exact m1 | exact m2 | fail); rfl) | ((with_reducible apply zF); (first | exact m1 | exact m2 | fail)) | (with_reducible first | apply zG | apply zH | apply zI) | ((with_reducible apply zJ); (first | exact kt | exact k1 | exact k2 | fail)) | ((with_reducible show pickE _ _ _); first | refine zA _ ⟨by omega, by rfl⟩ ?_ | refine zA _ (by rfl) ?_) | fail); try simp -dsimp -implicitDefEqProofs (maxSteps := 1000000) (disch := first | omega | (simp only [LN]; omega)) only [go_sem])
  | fail)
 all_goals first | omega | ((refine endX_i (⟨(B, J, M), ⟨hI2.le (by omega), hR2.le (by omega)⟩⟩) ?_; simp -implicitDefEqProofs only [endA]; (simp -dsimp -implicitDefEqProofs (maxSteps := 1000000) (disch := first | omega | (simp only [LN, beq_self_eq_true]; omega)) only [go_sem, beq_self_eq_true]; try trivial)))
theorem rWB (A : Dv) (M : MT) (h : WF A) (r k : Int) : ACalls Tryz.prog 48 [.loc 0 0, .p (.v (.int .i64 r)), .p (.v (.int .i64 k))] [rdO A M 1, rlO A] (.p (.v (.bool (A.wbB r k)))) [rdO (A.wb r k) M 1, rlO (A.wb r k)] := by
 unfold Dv.wb
 cases hb : A.wbB r k with
 | false =>
  have := rWB0 A M h r k hb
  simpa using this
 | true =>
  have hb2 := hb
  simp only [Dv.wbB, Bool.and_eq_true, Bool.not_eq_true', decide_eq_true_eq] at hb2
  have := rWB1 A M h r.toNat k.toNat hb2.1 (by omega) (by omega)
  rw [show ((r.toNat : Nat) : Int) = r by omega, show ((k.toNat : Nat) : Int) = k by omega] at this
  simpa using this
theorem bDo1 (A : Dv) (J : JT) (M : MT) (N : Nat) (hI : Inv A J N) (hR : RInv A M N) (hN : N < 1000000) (x : E3) (R : Rng3 x) (hk7 : x.k % 7 = 1) : ACallsX Tryz.prog 30 [.loc 0 0, .loc 26 0, .p (e3 x)] (dvL A J ++ [rdO A M 27, rlO A]) (fun g : G3 (N + 1) => .p (.v (.bool true))) (fun g : G3 (N + 1) => [deO g.1.1 1 2 3 4, peO g.1.1, cuO g.1.1, liO g.1.1 g.1.2.1 28, thO g.1.1 0 0 18, thO g.1.1 1 0 18, thO g.1.1 2 0 18, thO g.1.1 3 0 18, thO g.1.1 4 0 18, thO g.1.1 5 0 18, thO g.1.1 6 0 18, thO g.1.1 7 0 18, .dead, .dead, .dead, .dead, .dead, .dead, noO g.1.1 0, noO g.1.1 1, noO g.1.1 2, noO g.1.1 3, noO g.1.1 4, noO g.1.1 5, noO g.1.1 6, noO g.1.1 7, rdO g.1.1 g.1.2.2 27, rlO g.1.1, hiO g.1.1 g.1.2.1 0, hiO g.1.1 g.1.2.1 1, hiO g.1.1 g.1.2.1 2, hiO g.1.1 g.1.2.1 3, hiO g.1.1 g.1.2.1 4, hiO g.1.1 g.1.2.1 5]) := by
 refine yC (E := E) (fn := Tryz.f30) 112 [.tmp 6] rfl rfl rfl rfl (by decide) rfl (fun _ => rfl) ?_
 obtain ⟨k, hk, hk2⟩ : ∃ k : Nat, k < 8 ∧ x.th % 8 = k := ⟨(x.th % 8).toNat, by omega, by omega⟩
 have m1 := bMod x.th 8 (by omega) R.th
 have m2 := bMod x.k 7 (by omega) R.k
 rw [hk2] at m1
 rw [hk7] at m2
 have kt := dThread6 A J k hk
 have hj := hI.jl (by omega)
 have k1 := tStore A J k hk hI.wf hj x.o x.v R.o R.v
 have k2 := rStore A M k hk hR.wf hR.lo x.o x.v R.o
 have hI2 := fun g => hI.store (by omega) k R.o.1 R.v g
 have hR2 := hR.store k R.o.1 (hI2 true).wf
 generalize A.store k x.o x.v = B at *
 repeat' (first
  | (with_reducible first | apply zY | apply zT | apply zM | apply zN | apply zO | refine chk_ok (by kernel_rfl) ?_)
  | ((with_reducible first | apply zP | apply zQ | apply zR | apply zL) <;> intro h <;> try (exfalso; first | omega | exact h rfl | (revert h; decide) | (cases h; done)))
  | ((with_reducible show False); omega)
  | ((with_reducible first | refine r_gr0 [39] (by with_unfolding_all exact rfl) ?_ | refine r_gr1 [39] (by with_unfolding_all exact rfl) ?_ | refine r_gr2 [39] (by with_unfolding_all exact rfl) ?_ | refine r_gr3 [39] (by with_unfolding_all exact rfl) ?_ | refine r_gr4 [39] (by with_unfolding_all exact rfl) ?_ | refine r_gr5 [39] (by with_unfolding_all exact rfl) ?_ | refine r_gr6 [39] (by with_unfolding_all exact rfl) ?_ | refine r_gr7 [39] (by with_unfolding_all exact rfl) ?_ | refine r_gr8 [39] (by with_unfolding_all exact rfl) ?_ | refine r_gr9 [39] (by with_unfolding_all exact rfl) ?_ | refine r_gr10 [39] (by with_unfolding_all exact rfl) ?_); simp -dsimp -implicitDefEqProofs (maxSteps := 1000000) (disch := first | omega | (simp only [LN]; omega)) only [go_sem])
  | ((first | (with_reducible first | apply zW | apply zV | apply zU | apply zS | apply zX | show VX _ _ _ _ _ _ _ | show vstep _ _ _ _ _ | show vskip _ _ _ | show withV _ _) | ((with_reducible show endA _ _ _ _ _ _ _); simp -implicitDefEqProofs only [endA]) | (with_reducible first | refine zB default (by first | omega | (simp only [LN]; omega)) (by first | omega | (simp only [LN]; omega)) ?_ | refine zC default (by first | omega | (simp only [LN]; omega)) ?_ | refine And.intro (by first | decide | omega | assumption | (simp only [LN]; omega)) ?_) | ((with_reducible apply zD); (first | exact m1 | exact m2 | fail)) | ((with_reducible apply zE); (first | exact m1 | exact m2 | fail); rfl) | ((with_reducible apply zF); (first | exact m1 | exact m2 | fail)) | (with_reducible first | apply zG | apply zH | apply zI) | ((with_reducible apply zJ); (first | exact kt | exact k2 | fail)) | ((with_reducible apply zK); (first | exact k1 | fail); intro gq) | ((with_reducible show pickE _ _ _); first | refine zA _ ⟨by omega, by rfl⟩ ?_ | refine zA _ (by rfl) ?_) | fail); try simp -dsimp -implicitDefEqProofs (maxSteps := 1000000) (disch := first | omega | (simp only [LN]; omega)) only [go_sem])
  | fail)
 all_goals first | omega | ((refine endX_i (⟨(B, jsto A J k x.o gq, M), ⟨hI2 gq, hR2.le (by omega)⟩⟩) ?_; simp -implicitDefEqProofs only [endA]; (simp -dsimp -implicitDefEqProofs (maxSteps := 1000000) (disch := first | omega | (simp only [LN, beq_self_eq_true]; omega)) only [go_sem, beq_self_eq_true]; try trivial)))
theorem bDo3 (A : Dv) (J : JT) (M : MT) (N : Nat) (hI : Inv A J N) (hR : RInv A M N) (hN : N < 1000000) (x : E3) (R : Rng3 x) (hk7 : x.k % 7 = 3) : ACallsX Tryz.prog 30 [.loc 0 0, .loc 26 0, .p (e3 x)] (dvL A J ++ [rdO A M 27, rlO A]) (fun g : G3 (N + 1) => .p (.v (.bool true))) (fun g : G3 (N + 1) => [deO g.1.1 1 2 3 4, peO g.1.1, cuO g.1.1, liO g.1.1 g.1.2.1 28, thO g.1.1 0 0 18, thO g.1.1 1 0 18, thO g.1.1 2 0 18, thO g.1.1 3 0 18, thO g.1.1 4 0 18, thO g.1.1 5 0 18, thO g.1.1 6 0 18, thO g.1.1 7 0 18, .dead, .dead, .dead, .dead, .dead, .dead, noO g.1.1 0, noO g.1.1 1, noO g.1.1 2, noO g.1.1 3, noO g.1.1 4, noO g.1.1 5, noO g.1.1 6, noO g.1.1 7, rdO g.1.1 g.1.2.2 27, rlO g.1.1, hiO g.1.1 g.1.2.1 0, hiO g.1.1 g.1.2.1 1, hiO g.1.1 g.1.2.1 2, hiO g.1.1 g.1.2.1 3, hiO g.1.1 g.1.2.1 4, hiO g.1.1 g.1.2.1 5]) := by
 refine yC (E := E) (fn := Tryz.f30) 112 [.tmp 6] rfl rfl rfl rfl (by decide) rfl (fun _ => rfl) ?_
 obtain ⟨k, hk, hk2⟩ : ∃ k : Nat, k < 8 ∧ x.th % 8 = k := ⟨(x.th % 8).toNat, by omega, by omega⟩
 have m1 := bMod x.th 8 (by omega) R.th
 have m2 := bMod x.k 7 (by omega) R.k
 rw [hk2] at m1
 rw [hk7] at m2
 have kt := dThread6 A J k hk
 have hj := hI.jl (by omega)
 have k1 := tFlush A J k hk hI.wf x.o R.o
 have k2 := rFlush A M N hR.nt (by omega) k hk hR.wf hR.lo x.o R.o
 have hI2 := hI.flush k R.o.1
 have hR2 := hR.flush hk x.o hI2.wf
 generalize A.flush k x.o = B at *
 repeat' (first
  | (with_reducible first | apply zY | apply zT | apply zM | apply zN | apply zO | refine chk_ok (by kernel_rfl) ?_)
  | ((with_reducible first | apply zP | apply zQ | apply zR | apply zL) <;> intro h <;> try (exfalso; first | omega | exact h rfl | (revert h; decide) | (cases h; done)))
  | ((with_reducible show False); omega)
  | ((first | (with_reducible first | apply zW | apply zV | apply zU | apply zS | apply zX | show VX _ _ _ _ _ _ _ | show vstep _ _ _ _ _ | show vskip _ _ _ | show withV _ _) | ((with_reducible show endA _ _ _ _ _ _ _); simp -implicitDefEqProofs only [endA]) | (with_reducible first | refine zB default (by first | omega | (simp only [LN]; omega)) (by first | omega | (simp only [LN]; omega)) ?_ | refine zC default (by first | omega | (simp only [LN]; omega)) ?_ | refine And.intro (by first | decide | omega | assumption | (simp only [LN]; omega)) ?_) | ((with_reducible apply zD); (first | exact m1 | exact m2 | fail)) | ((with_reducible apply zE); (first | exact m1 | exact m2 | fail); rfl) | ((with_reducible apply zF); (first | exact m1 | exact m2 | fail)) | (with_reducible first | apply zG | apply zH | apply zI) | ((with_reducible apply zJ); (first | exact kt | exact k1 | exact k2 | fail)) | ((with_reducible show pickE _ _ _); first | refine zA _ ⟨by omega, by rfl⟩ ?_ | refine zA _ (by rfl) ?_) | fail); try simp -dsimp -implicitDefEqProofs (maxSteps := 1000000) (disch := first | omega | (simp only [LN]; omega)) only [go_sem])
  | fail)
 all_goals first | omega | ((refine endX_i (⟨(B, J, flM A M k x.o), ⟨hI2.le (by omega), hR2⟩⟩) ?_; simp -implicitDefEqProofs only [endA]; (simp -dsimp -implicitDefEqProofs (maxSteps := 1000000) (disch := first | omega | (simp only [LN]; omega)) only [go_sem]; try trivial)))
theorem bDo4 (A : Dv) (J : JT) (M : MT) (N : Nat) (hI : Inv A J N) (hR : RInv A M N) (hN : N < 1000000) (x : E3) (R : Rng3 x) (hk7 : x.k % 7 = 4) : ACallsX Tryz.prog 30 [.loc 0 0, .loc 26 0, .p (e3 x)] (dvL A J ++ [rdO A M 27, rlO A]) (fun g : G3 (N + 1) => .p (.v (.bool true))) (fun g : G3 (N + 1) => [deO g.1.1 1 2 3 4, peO g.1.1, cuO g.1.1, liO g.1.1 g.1.2.1 28, thO g.1.1 0 0 18, thO g.1.1 1 0 18, thO g.1.1 2 0 18, thO g.1.1 3 0 18, thO g.1.1 4 0 18, thO g.1.1 5 0 18, thO g.1.1 6 0 18, thO g.1.1 7 0 18, .dead, .dead, .dead, .dead, .dead, .dead, noO g.1.1 0, noO g.1.1 1, noO g.1.1 2, noO g.1.1 3, noO g.1.1 4, noO g.1.1 5, noO g.1.1 6, noO g.1.1 7, rdO g.1.1 g.1.2.2 27, rlO g.1.1, hiO g.1.1 g.1.2.1 0, hiO g.1.1 g.1.2.1 1, hiO g.1.1 g.1.2.1 2, hiO g.1.1 g.1.2.1 3, hiO g.1.1 g.1.2.1 4, hiO g.1.1 g.1.2.1 5]) := by
 refine yC (E := E) (fn := Tryz.f30) 112 [.tmp 6] rfl rfl rfl rfl (by decide) rfl (fun _ => rfl) ?_
 obtain ⟨k, hk, hk2⟩ : ∃ k : Nat, k < 8 ∧ x.th % 8 = k := ⟨(x.th % 8).toNat, by omega, by omega⟩
 have m1 := bMod x.th 8 (by omega) R.th
 have m2 := bMod x.k 7 (by omega) R.k
 rw [hk2] at m1
 rw [hk7] at m2
 have kt := dThread6 A J k hk
 have hj := hI.jl (by omega)
 have hno := hI.no k hk
 have k1 := tFence A J k hk hI.wf hno hI.jo
 have k2 := rFence A M N hR.nt (by omega) k hk hR.wf hR.lo hno
 have hI2 := fun J2 hj2 => hI.fence (J2 := J2) k hk hj2
 have hR2 := hR.fence hk hno
 generalize A.fence k = B at *
 repeat' (first
  | (with_reducible first | apply zY | apply zT | apply zM | apply zN | apply zO | refine chk_ok (by kernel_rfl) ?_)
  | ((with_reducible first | apply zP | apply zQ | apply zR | apply zL) <;> intro h <;> try (exfalso; first | omega | exact h rfl | (revert h; decide) | (cases h; done)))
  | ((with_reducible show False); omega)
  | ((with_reducible first | refine r_gr0 [44] (by with_unfolding_all exact rfl) ?_ | refine r_gr1 [44] (by with_unfolding_all exact rfl) ?_ | refine r_gr2 [44] (by with_unfolding_all exact rfl) ?_ | refine r_gr3 [44] (by with_unfolding_all exact rfl) ?_ | refine r_gr4 [44] (by with_unfolding_all exact rfl) ?_ | refine r_gr5 [44] (by with_unfolding_all exact rfl) ?_ | refine r_gr6 [44] (by with_unfolding_all exact rfl) ?_ | refine r_gr7 [44] (by with_unfolding_all exact rfl) ?_ | refine r_gr8 [44] (by with_unfolding_all exact rfl) ?_ | refine r_gr9 [44] (by with_unfolding_all exact rfl) ?_ | refine r_gr10 [44] (by with_unfolding_all exact rfl) ?_); simp -dsimp -implicitDefEqProofs (maxSteps := 1000000) (disch := first | omega | (simp only [LN]; omega)) only [go_sem])
  | ((first | (with_reducible first | apply zW | apply zV | apply zU | apply zS | apply zX | show VX _ _ _ _ _ _ _ | show vstep _ _ _ _ _ | show vskip _ _ _ | show withV _ _) | ((with_reducible show endA _ _ _ _ _ _ _); simp -implicitDefEqProofs only [endA]) | (with_reducible first | refine zB default (by first | omega | (simp only [LN]; omega)) (by first | omega | (simp only [LN]; omega)) ?_ | refine zC default (by first | omega | (simp only [LN]; omega)) ?_ | refine And.intro (by first | decide | omega | assumption | (simp only [LN]; omega)) ?_) | ((with_reducible apply zD); (first | exact m1 | exact m2 | fail)) | ((with_reducible apply zE); (first | exact m1 | exact m2 | fail); rfl) | ((with_reducible apply zF); (first | exact m1 | exact m2 | fail)) | (with_reducible first | apply zG | apply zH | apply zI) | ((with_reducible apply zJ); (first | exact kt | exact k2 | fail)) | ((with_reducible apply zK); (first | exact k1 | fail); intro gq) | ((with_reducible show pickE _ _ _); first | refine zA _ ⟨by omega, by rfl⟩ ?_ | refine zA _ (by rfl) ?_) | fail); try simp -dsimp -implicitDefEqProofs (maxSteps := 1000000) (disch := first | omega | (simp only [LN]; omega)) only [go_sem])
  | fail)
 all_goals first | omega | ((refine endX_i (⟨(B, gq.1, feM A M k), ⟨(hI2 gq.1 gq.2).le (by omega), hR2.le (by omega)⟩⟩) ?_; simp -implicitDefEqProofs only [endA]; (simp -dsimp -implicitDefEqProofs (maxSteps := 1000000) (disch := first | omega | (simp only [LN]; omega)) only [go_sem]; try trivial)))
theorem bDo5 (A : Dv) (J : JT) (M : MT) (N : Nat) (hI : Inv A J N) (hR : RInv A M N) (hN : N < 1000000) (x : E3) (R : Rng3 x) (hk7 : x.k % 7 = 5) : ACallsX Tryz.prog 30 [.loc 0 0, .loc 26 0, .p (e3 x)] (dvL A J ++ [rdO A M 27, rlO A]) (fun g : G3 (N + 1) => .p (.v (.bool true))) (fun g : G3 (N + 1) => [deO g.1.1 1 2 3 4, peO g.1.1, cuO g.1.1, liO g.1.1 g.1.2.1 28, thO g.1.1 0 0 18, thO g.1.1 1 0 18, thO g.1.1 2 0 18, thO g.1.1 3 0 18, thO g.1.1 4 0 18, thO g.1.1 5 0 18, thO g.1.1 6 0 18, thO g.1.1 7 0 18, .dead, .dead, .dead, .dead, .dead, .dead, noO g.1.1 0, noO g.1.1 1, noO g.1.1 2, noO g.1.1 3, noO g.1.1 4, noO g.1.1 5, noO g.1.1 6, noO g.1.1 7, rdO g.1.1 g.1.2.2 27, rlO g.1.1, hiO g.1.1 g.1.2.1 0, hiO g.1.1 g.1.2.1 1, hiO g.1.1 g.1.2.1 2, hiO g.1.1 g.1.2.1 3, hiO g.1.1 g.1.2.1 4, hiO g.1.1 g.1.2.1 5]) := by
 refine yC (E := E) (fn := Tryz.f30) 112 [.tmp 6] rfl rfl rfl rfl (by decide) rfl (fun _ => rfl) ?_
 obtain ⟨k, hk, hk2⟩ : ∃ k : Nat, k < 8 ∧ x.th % 8 = k := ⟨(x.th % 8).toNat, by omega, by omega⟩
 have m1 := bMod x.th 8 (by omega) R.th
 have m2 := bMod x.k 7 (by omega) R.k
 rw [hk2] at m1
 rw [hk7] at m2
 have kt := dThread6 A J k hk
 have hj := hI.jl (by omega)
 have k1 := dWriteBack6 A J hI.wf hj (IntKind.i64.wrap x.o) x.n
 have k2 := rWB A M hR.wf (IntKind.i64.wrap x.o) x.n
 have hI2 := hI.wb (IntKind.i64.wrap x.o) x.n
 have hR2 := hR.wb (IntKind.i64.wrap x.o) x.n hI2.wf
 generalize A.wb (IntKind.i64.wrap x.o) x.n = B at *
 repeat' (first
  | (with_reducible first | apply zY | apply zT | apply zM | apply zN | apply zO | refine chk_ok (by kernel_rfl) ?_)
  | ((with_reducible first | apply zP | apply zQ | apply zR | apply zL) <;> intro h <;> try (exfalso; first | omega | exact h rfl | (revert h; decide) | (cases h; done)))
  | ((with_reducible show False); omega)
  | ((first | (with_reducible first | apply zW | apply zV | apply zU | apply zS | apply zX | show VX _ _ _ _ _ _ _ | show vstep _ _ _ _ _ | show vskip _ _ _ | show withV _ _) | ((with_reducible show endA _ _ _ _ _ _ _); simp -implicitDefEqProofs only [endA]) | (with_reducible first | refine zB default (by first | omega | (simp only [LN]; omega)) (by first | omega | (simp only [LN]; omega)) ?_ | refine zC default (by first | omega | (simp only [LN]; omega)) ?_ | refine And.intro (by first | decide | omega | assumption | (simp only [LN]; omega)) ?_) | ((with_reducible apply zD); (first | exact m1 | exact m2 | fail)) | ((with_reducible apply zE); (first | exact m1 | exact m2 | fail); rfl) | ((with_reducible apply zF); (first | exact m1 | exact m2 | fail)) | (with_reducible first | apply zG | apply zH | apply zI) | ((with_reducible apply zJ); (first | exact kt | exact k1 | exact k2 | fail)) | ((with_reducible show pickE _ _ _); first | refine zA _ ⟨by omega, by rfl⟩ ?_ | refine zA _ (by rfl) ?_) | fail); try simp -dsimp -implicitDefEqProofs (maxSteps := 1000000) (disch := first | omega | (simp only [LN]; omega)) only [go_sem])
  | fail)
 all_goals first | omega | ((refine endX_i (⟨(B, jwb A J (IntKind.i64.wrap x.o) x.n, M), ⟨hI2.le (by omega), hR2.le (by omega)⟩⟩) ?_; simp -implicitDefEqProofs only [endA]; (simp -dsimp -implicitDefEqProofs (maxSteps := 1000000) (disch := first | omega | (simp only [LN, beq_self_eq_true]; omega)) only [go_sem, beq_self_eq_true]; try trivial)))
theorem bDo6 (A : Dv) (J : JT) (M : MT) (N : Nat) (hI : Inv A J N) (hR : RInv A M N) (hN : N < 1000000) (x : E3) (R : Rng3 x) (hk7 : x.k % 7 = 6) : ACallsX Tryz.prog 30 [.loc 0 0, .loc 26 0, .p (e3 x)] (dvL A J ++ [rdO A M 27, rlO A]) (fun g : G3 (N + 1) => .p (.v (.bool true))) (fun g : G3 (N + 1) => [deO g.1.1 1 2 3 4, peO g.1.1, cuO g.1.1, liO g.1.1 g.1.2.1 28, thO g.1.1 0 0 18, thO g.1.1 1 0 18, thO g.1.1 2 0 18, thO g.1.1 3 0 18, thO g.1.1 4 0 18, thO g.1.1 5 0 18, thO g.1.1 6 0 18, thO g.1.1 7 0 18, .dead, .dead, .dead, .dead, .dead, .dead, noO g.1.1 0, noO g.1.1 1, noO g.1.1 2, noO g.1.1 3, noO g.1.1 4, noO g.1.1 5, noO g.1.1 6, noO g.1.1 7, rdO g.1.1 g.1.2.2 27, rlO g.1.1, hiO g.1.1 g.1.2.1 0, hiO g.1.1 g.1.2.1 1, hiO g.1.1 g.1.2.1 2, hiO g.1.1 g.1.2.1 3, hiO g.1.1 g.1.2.1 4, hiO g.1.1 g.1.2.1 5]) := by
 refine yC (E := E) (fn := Tryz.f30) 112 [.tmp 6] rfl rfl rfl rfl (by decide) rfl (fun _ => rfl) ?_
 obtain ⟨k, hk, hk2⟩ : ∃ k : Nat, k < 8 ∧ x.th % 8 = k := ⟨(x.th % 8).toNat, by omega, by omega⟩
 have m1 := bMod x.th 8 (by omega) R.th
 have m2 := bMod x.k 7 (by omega) R.k
 rw [hk2] at m1
 rw [hk7] at m2
 have kt := dThread6 A J k hk
 have hj := hI.jl (by omega)
 have k1 := dArm6 A J x.n
 have k2 := rArm A M x.n
 have hI2 := hI.arm x.n
 have hR2 := hR.arm R.n.2
 generalize A.arm x.n = B at *
 repeat' (first
  | (with_reducible first | apply zY | apply zT | apply zM | apply zN | apply zO | refine chk_ok (by kernel_rfl) ?_)
  | ((with_reducible first | apply zP | apply zQ | apply zR | apply zL) <;> intro h <;> try (exfalso; first | omega | exact h rfl | (revert h; decide) | (cases h; done)))
  | ((with_reducible show False); omega)
  | ((first | (with_reducible first | apply zW | apply zV | apply zU | apply zS | apply zX | show VX _ _ _ _ _ _ _ | show vstep _ _ _ _ _ | show vskip _ _ _ | show withV _ _) | ((with_reducible show endA _ _ _ _ _ _ _); simp -implicitDefEqProofs only [endA]) | (with_reducible first | refine zB default (by first | omega | (simp only [LN]; omega)) (by first | omega | (simp only [LN]; omega)) ?_ | refine zC default (by first | omega | (simp only [LN]; omega)) ?_ | refine And.intro (by first | decide | omega | assumption | (simp only [LN]; omega)) ?_) | ((with_reducible apply zD); (first | exact m1 | exact m2 | fail)) | ((with_reducible apply zE); (first | exact m1 | exact m2 | fail); rfl) | ((with_reducible apply zF); (first | exact m1 | exact m2 | fail)) | (with_reducible first | apply zG | apply zH | apply zI) | ((with_reducible apply zJ); (first | exact kt | exact k1 | exact k2 | fail)) | ((with_reducible show pickE _ _ _); first | refine zA _ ⟨by omega, by rfl⟩ ?_ | refine zA _ (by rfl) ?_) | fail); try simp -dsimp -implicitDefEqProofs (maxSteps := 1000000) (disch := first | omega | (simp only [LN]; omega)) only [go_sem])
  | fail)
 all_goals first | omega | ((refine endX_i (⟨(B, J, M), ⟨hI2.le (by omega), hR2.le (by omega)⟩⟩) ?_; simp -implicitDefEqProofs only [endA]; (simp -dsimp -implicitDefEqProofs (maxSteps := 1000000) (disch := first | omega | (simp only [LN, beq_self_eq_true]; omega)) only [go_sem, beq_self_eq_true]; try trivial)))
end Go.Proofs.YtckhjklcfagkoaaGreatDoor
