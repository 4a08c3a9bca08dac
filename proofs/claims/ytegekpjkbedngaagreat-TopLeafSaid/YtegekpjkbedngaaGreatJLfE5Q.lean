/- Contracts of functions of this program, and the plain facts that they rest on. No conditions. -/
import Derived.Test.YtegekpjkbedngaaGreatJMmBQ
import Derived.Test.YtegekpjkbedngaaGreatJDvFQ
set_option linter.unusedSectionVars false
set_option linter.unusedSimpArgs false
set_option linter.unusedVariables false
namespace Go.Proofs.YtegekpjkbedngaaGreat
set_option maxHeartbeats 4000000
set_option maxRecDepth 100000
open Go Go.Ab
attribute [local irreducible] callK callF loopQ vstep vskip pickE hideP
attribute [local go_sem] coO eNd eU deO peO cuO liO thO hiO noO
theorem kRead5 (A : Dv) (J : JT) (hr : Rd A 5) (a : Nat) (ha : a < 30) (W : Nat → Int) (sl : List Nat) (c : Nat) (hn : Nd A a W sl c) : ACalls Tryz.prog 32 [.agg [.ifc 43 (.loc 9 0), .p (eP a)]] [deO A 1 2 3 4, peO A, cuO A, liO A J 12, thO A 0 0 20, thO A 1 0 20, thO A 2 0 20, thO A 3 0 20, thO A 4 0 20, thO A 5 0 20, thO A 6 0 20, thO A 7 0 20, hiO A J 0, hiO A J 1, hiO A J 2, hiO A J 3, hiO A J 4, hiO A J 5, hiO A J 6, hiO A J 7, noO A 0, noO A 1, noO A 2, noO A 3, noO A 4, noO A 5, noO A 6, noO A 7] (.tup [.loc 28 0, .p (.v (.int .i64 0))]) [deO A 1 2 3 4, peO A, cuO A, liO A J 12, thO A 0 0 20, thO A 1 0 20, thO A 2 0 20, thO A 3 0 20, thO A 4 0 20, thO A 5 0 20, thO A 6 0 20, thO A 7 0 20, hiO A J 0, hiO A J 1, hiO A J 2, hiO A J 3, hiO A J 4, hiO A J 5, hiO A J 6, hiO A J 7, noO A 0, noO A 1, noO A 2, noO A 3, noO A 4, noO A 5, noO A 6, noO A 7, coO W sl (c % 4096)] := by
 refine yA (E := E) (fn := Tryz.f32) 94 [.tmp 2, .tmp 3] rfl rfl rfl rfl (by decide) rfl rfl ?_
 have h8 := hr.n8
 have k1 := tSize6 A J 5 (by omega) (by omega)
 have k2 := tErr6 A J 5 (by omega)
 rw [hr.err] at k2
 rw [h8] at k1
 have hp0 := pW_0 (a := a)
 have hsz : ((64 * 8 : Nat) : Int) = 512 := rfl
 rw [hsz] at k1
 have hw := wO_def a 0
 have e288 : IntKind.u64.wrap 288 = 288 := rfl
 have q1 := fun i hi2 => kLat A J 5 (by omega) a ha i hi2
 have q2 : ∀ i, i < 28 → _ := fun i hi2 => tLd A J 5 (by omega) hr ha i hi2
 have kp := kParse sl hn.so c
 have kv := kValid W sl (c % 4096) 512 hn.so hn.w1 hn.w2 hn.w3 hn.srt
 have hpl := perm_lt hn.so c
 have hpc : (perm sl c : Int) / 4503599627370496 = ((c % 4096 : Nat) : Int) := by rw [← perm_c hn.so c]; rfl
 have hw0 := hn.w0
 rw [← hw0] at kp hpc
 clear hr
 repeat' (first
  | (with_reducible first | apply zY | apply zT | apply zM | apply zN | apply zO | refine chk_ok (by kernel_rfl) ?_)
  | ((with_reducible first | apply zP | apply zQ | apply zR | apply zL) <;> intro h <;> try (exfalso; first | omega | exact h rfl | (revert h; decide) | (cases h; done)))
  | ((with_reducible show False); omega)
  | ((first | (with_reducible first | apply zW | apply zV | apply zU | apply zS | apply zX | show VX _ _ _ _ _ _ _ | show vstep _ _ _ _ _ | show vskip _ _ _ | show withV _ _) | ((with_reducible show endA _ _ _ _ _ _ _); simp -implicitDefEqProofs only [endA]) | (with_reducible first | refine zB default (by first | omega | (simp only [LN, eP, hp0, e288]; omega)) (by first | omega | (simp only [LN, eP, hp0, e288]; omega)) ?_ | refine zC default (by first | omega | (simp only [LN, eP, hp0, e288]; omega)) ?_ | refine And.intro (by first | decide | omega | assumption | (simp only [LN, eP, hp0, e288]; omega)) ?_) | ((with_reducible apply zD); (exact qOff a ha)) | ((with_reducible apply zE); (exact qOff a ha); rfl) | ((with_reducible apply zF); (exact qOff a ha)) | (with_reducible first | apply zG | apply zH | apply zI | apply hidePI_own) | ((with_reducible apply zJ); (first | exact k1 | exact k2 | fail)) | ((with_reducible show pickE _ _ _); first | refine zA _ ⟨by omega, by rfl⟩ ?_ | refine zA _ (by rfl) ?_) | fail); try simp -dsimp -implicitDefEqProofs (maxSteps := 1000000) (disch := first | omega | (simp only [LN, eP, hp0, e288]; omega)) only [go_sem, eP, hp0, e288])
  | fail)
 all_goals try omega
 refine r_loopA (α := Nat) [1, 4, 6] (fun i b => [(40, aI i)]) (fun i b => [(6, .var [.p (.v (.int .u64 (rI W i 0))), .p (.v (.int .u64 (rI W i 1))), .p (.v (.int .u64 (rI W i 2))), .p (.v (.int .u64 (rI W i 3))), .p (.v (.int .u64 (rI W i 4))), .p (.v (.int .u64 (rI W i 5))), .p (.v (.int .u64 (rI W i 6))), .p (.v (.int .u64 (rI W i 7))), .p (.v (.int .u64 (rI W i 8))), .p (.v (.int .u64 (rI W i 9))), .p (.v (.int .u64 (rI W i 10))), .p (.v (.int .u64 (rI W i 11))), .p (.v (.int .u64 (rI W i 12))), .p (.v (.int .u64 (rI W i 13))), .p (.v (.int .u64 (rI W i 14))), .p (.v (.int .u64 (rI W i 15))), .p (.v (.int .u64 (rI W i 16))), .p (.v (.int .u64 (rI W i 17))), .p (.v (.int .u64 (rI W i 18))), .p (.v (.int .u64 (rI W i 19))), .p (.v (.int .u64 (rI W i 20))), .p (.v (.int .u64 (rI W i 21))), .p (.v (.int .u64 (rI W i 22))), .p (.v (.int .u64 (rI W i 23))), .p (.v (.int .u64 (rI W i 24))), .p (.v (.int .u64 (rI W i 25))), .p (.v (.int .u64 (rI W i 26))), .p (.v (.int .u64 (rI W i 27))), .p (.v (.slice none 0 0)), .p (.v (.int .u64 0))])]) (fun i => []) (fun i => i ≤ 28) (fun i => 28 - i) (0) ?h0_1 ?hs0_1 ?I_1 ?hI_1 ?round_1
 case hI_1 => intro x; (simp -dsimp -implicitDefEqProofs (maxSteps := 1000000) (disch := first | omega | (simp only [LN]; omega)) only [go_sem]) <;> exact rfl
 case hs0_1 => refine wk_auto ?_; (simp -dsimp -implicitDefEqProofs (maxSteps := 1000000) (disch := first | omega | (simp only [LN, rI_0]; omega)) only [go_sem, rI_0]) <;> (try omega)
 case h0_1 => exact Nat.zero_le _
 case round_1 =>
  intro i hi
  have w3 : IntKind.i64.wrap ((i : Int) + 1) = ((i + 1 : Nat) : Int) := by rw [IntKind.wrap_i64]; push_cast; omega
  by_cases hi2 : i < 28
  ·have q1 := q1 i hi2
   have q2 := q2 i hi2
   rw [hn.ld i hi2] at q2
   repeat' (first
    | (with_reducible first | apply zY | apply zT | apply zM | apply zN | apply zO | refine chk_ok (by kernel_rfl) ?_)
    | ((with_reducible first | apply zP | apply zQ | apply zR | apply zL) <;> intro h <;> try (exfalso; first | omega | exact h rfl | (revert h; decide) | (cases h; done)))
    | ((with_reducible show False); omega)
    | ((first | (with_reducible first | apply zW | apply zV | apply zU | apply zS | apply zX | show VX _ _ _ _ _ _ _ | show vstep _ _ _ _ _ | show vskip _ _ _ | show withV _ _) | ((with_reducible show endA _ _ _ _ _ _ _); simp -implicitDefEqProofs only [endA]) | (with_reducible first | refine zB default (by first | omega | (simp only [LN]; omega)) (by first | omega | (simp only [LN]; omega)) ?_ | refine zC default (by first | omega | (simp only [LN]; omega)) ?_ | refine And.intro (by first | decide | omega | assumption | (simp only [LN]; omega)) ?_) | (with_reducible first | apply zG | apply zH | apply zI | apply hidePI_own) | ((with_reducible apply zJ); (first | exact q1 | exact q2 | fail)) | ((with_reducible show pickE _ _ _); first | refine zA _ ⟨by omega, by rfl⟩ ?_ | refine zA _ (by rfl) ?_) | fail); try simp -dsimp -implicitDefEqProofs (maxSteps := 1000000) (disch := first | omega | (simp only [LN]; omega)) only [go_sem])
    | fail)
   have hlt := @rI_n W
   have hge := @rI_o W
   have hi1 : i * 1 = i := Nat.mul_one i
   obtain ⟨i2, he⟩ : ∃ i2, i2 = i + 1 := ⟨_, rfl⟩
   rcases lt28 hi2 with rfl | rfl | rfl | rfl | rfl | rfl | rfl | rfl | rfl | rfl | rfl | rfl | rfl | rfl | rfl | rfl | rfl | rfl | rfl | rfl | rfl | rfl | rfl | rfl | rfl | rfl | rfl | rfl
   all_goals
    simp -dsimp -implicitDefEqProofs (maxSteps := 1000000) (disch := first | omega | (simp only [LN]; omega)) only [go_sem]
    repeat' (first
     | (with_reducible first | apply zY | apply zT | apply zM | apply zN | apply zO | refine chk_ok (by kernel_rfl) ?_)
     | ((with_reducible first | apply zP | apply zQ | apply zR | apply zL) <;> intro h <;> try (exfalso; first | omega | exact h rfl | (revert h; decide) | (cases h; done)))
     | ((with_reducible show False); omega)
     | ((first | (with_reducible first | apply zW | apply zV | apply zU | apply zS | apply zX | show VX _ _ _ _ _ _ _ | show vstep _ _ _ _ _ | show vskip _ _ _ | show withV _ _) | ((with_reducible show endA _ _ _ _ _ _ _); simp -implicitDefEqProofs only [endA]) | (with_reducible first | refine zB default (by first | omega | (simp only [LN]; omega)) (by first | omega | (simp only [LN]; omega)) ?_ | refine zC default (by first | omega | (simp only [LN]; omega)) ?_ | refine And.intro (by first | decide | omega | assumption | (simp only [LN]; omega)) ?_) | ((with_reducible show pickE _ _ _); first | refine zA _ ⟨by omega, by rfl⟩ ?_ | refine zA _ (by rfl) ?_) | fail); try simp -dsimp -implicitDefEqProofs (maxSteps := 1000000) (disch := first | omega | (simp only [LN]; omega)) only [go_sem])
     | fail)
    all_goals first | omega | ((refine zZ (i2) ?_ ?_ ?_; (omega); (show _ < _; omega); (simp -dsimp -implicitDefEqProofs (maxSteps := 1000000) (disch := first | omega | (simp only [LN, w3, he, hlt, hge]; omega)) only [go_sem, w3, he, hlt, hge]; try trivial)))
  ·obtain rfl : i = 28 := by omega
   have hlt := fun j (h : j < 28) => @rI_n W 28 j h
   repeat' (first
    | (with_reducible first | apply zY | apply zT | apply zM | apply zN | apply zO | refine chk_ok (by kernel_rfl) ?_)
    | ((with_reducible first | apply zP | apply zQ | apply zR | apply zL) <;> intro h <;> try (exfalso; first | omega | exact h rfl | (revert h; decide) | (cases h; done)))
    | ((with_reducible show False); omega)
    | ((first | (with_reducible first | apply zW | apply zV | apply zU | apply zS | apply zX | show VX _ _ _ _ _ _ _ | show vstep _ _ _ _ _ | show vskip _ _ _ | show withV _ _) | ((with_reducible show endA _ _ _ _ _ _ _); simp -implicitDefEqProofs only [endA]) | (with_reducible first | refine zB default (by first | omega | (simp only [LN, hlt, hpc]; omega)) (by first | omega | (simp only [LN, hlt, hpc]; omega)) ?_ | refine zC default (by first | omega | (simp only [LN, hlt, hpc]; omega)) ?_ | refine And.intro (by first | decide | omega | assumption | (simp only [LN, hlt, hpc]; omega)) ?_) | ((with_reducible apply zD); (exact kp)) | ((with_reducible apply zE); (exact kp); rfl) | ((with_reducible apply zF); (exact kp)) | (with_reducible first | apply zG | apply zH | apply zI | apply hidePI_own) | ((with_reducible apply zJ); (first | exact k2 | exact kv | fail)) | ((with_reducible show pickE _ _ _); first | refine zA _ ⟨by omega, by rfl⟩ ?_ | refine zA _ (by rfl) ?_) | fail); try simp -dsimp -implicitDefEqProofs (maxSteps := 1000000) (disch := first | omega | (simp only [LN, hlt, hpc]; omega)) only [go_sem, hlt, hpc])
    | fail)
   all_goals first | omega
end Go.Proofs.YtegekpjkbedngaaGreat
namespace Go.Proofs.YtegekpjkbedngaaGreat
set_option maxHeartbeats 4000000
set_option maxRecDepth 100000
open Go Go.Ab
attribute [local irreducible] callK callF loopQ vstep vskip pickE hideP
attribute [local go_sem] coO eNd eU deO peO cuO liO thO hiO noO eIn
theorem kCheck5 (A : Dv) (J : JT) (hr : Rd A 5) (a : Nat) (ha : a < 30) (W : Nat → Int) (sl : List Nat) (c : Nat) (hn : Nd A a W sl c) : ACalls Tryz.prog 41 [.agg [.ifc 43 (.loc 9 0), .p (eP a)]] [deO A 1 2 3 4, peO A, cuO A, liO A J 12, thO A 0 0 20, thO A 1 0 20, thO A 2 0 20, thO A 3 0 20, thO A 4 0 20, thO A 5 0 20, thO A 6 0 20, thO A 7 0 20, hiO A J 0, hiO A J 1, hiO A J 2, hiO A J 3, hiO A J 4, hiO A J 5, hiO A J 6, hiO A J 7, noO A 0, noO A 1, noO A 2, noO A 3, noO A 4, noO A 5, noO A 6, noO A 7] (.p (.v (.int .i64 0))) [deO A 1 2 3 4, peO A, cuO A, liO A J 12, thO A 0 0 20, thO A 1 0 20, thO A 2 0 20, thO A 3 0 20, thO A 4 0 20, thO A 5 0 20, thO A 6 0 20, thO A 7 0 20, hiO A J 0, hiO A J 1, hiO A J 2, hiO A J 3, hiO A J 4, hiO A J 5, hiO A J 6, hiO A J 7, noO A 0, noO A 1, noO A 2, noO A 3, noO A 4, noO A 5, noO A 6, noO A 7] := by
 refine yA (E := E) (fn := Tryz.f41) 11 [.tmp 2] rfl rfl rfl rfl (by decide) rfl rfl ?_
 have k1 := kRead5 A J hr a ha W sl c hn
 repeat' (first
  | (with_reducible first | apply zY | apply zT | apply zM | apply zN | apply zO | refine chk_ok (by kernel_rfl) ?_)
  | ((with_reducible first | apply zP | apply zQ | apply zR | apply zL) <;> intro h <;> try (exfalso; first | omega | exact h rfl | (revert h; decide) | (cases h; done)))
  | ((with_reducible show False); omega)
  | ((first | (with_reducible first | apply zW | apply zV | apply zU | apply zS | apply zX | show VX _ _ _ _ _ _ _ | show vstep _ _ _ _ _ | show vskip _ _ _ | show withV _ _) | ((with_reducible show endA _ _ _ _ _ _ _); simp -implicitDefEqProofs only [endA]) | (with_reducible first | refine zB default (by first | omega | (simp only [LN]; omega)) (by first | omega | (simp only [LN]; omega)) ?_ | refine zC default (by first | omega | (simp only [LN]; omega)) ?_ | refine And.intro (by first | decide | omega | assumption | (simp only [LN]; omega)) ?_) | (with_reducible first | apply zG | apply zH | apply zI | apply hidePI_own) | ((with_reducible apply zJ); (first | exact k1 | fail)) | ((with_reducible show pickE _ _ _); first | refine zA _ ⟨by omega, by rfl⟩ ?_ | refine zA _ (by rfl) ?_) | fail); try simp -dsimp -implicitDefEqProofs (maxSteps := 1000000) (disch := first | omega | (simp only [LN]; omega)) only [go_sem])
  | fail)
 all_goals first | omega
theorem kLen5 (A : Dv) (J : JT) (hr : Rd A 5) (a : Nat) (ha : a < 30) (W : Nat → Int) (sl : List Nat) (c : Nat) (hn : Nd A a W sl c) : ACalls Tryz.prog 42 [.agg [.ifc 43 (.loc 9 0), .p (eP a)]] [deO A 1 2 3 4, peO A, cuO A, liO A J 12, thO A 0 0 20, thO A 1 0 20, thO A 2 0 20, thO A 3 0 20, thO A 4 0 20, thO A 5 0 20, thO A 6 0 20, thO A 7 0 20, hiO A J 0, hiO A J 1, hiO A J 2, hiO A J 3, hiO A J 4, hiO A J 5, hiO A J 6, hiO A J 7, noO A 0, noO A 1, noO A 2, noO A 3, noO A 4, noO A 5, noO A 6, noO A 7] (.p (.v (.int .i64 sl.length))) [deO A 1 2 3 4, peO A, cuO A, liO A J 12, thO A 0 0 20, thO A 1 0 20, thO A 2 0 20, thO A 3 0 20, thO A 4 0 20, thO A 5 0 20, thO A 6 0 20, thO A 7 0 20, hiO A J 0, hiO A J 1, hiO A J 2, hiO A J 3, hiO A J 4, hiO A J 5, hiO A J 6, hiO A J 7, noO A 0, noO A 1, noO A 2, noO A 3, noO A 4, noO A 5, noO A 6, noO A 7] := by
 refine yA (E := E) (fn := Tryz.f42) 17 [.tmp 2] rfl rfl rfl rfl (by decide) rfl rfl ?_
 have k1 := kRead5 A J hr a ha W sl c hn
 repeat' (first
  | (with_reducible first | apply zY | apply zT | apply zM | apply zN | apply zO | refine chk_ok (by kernel_rfl) ?_)
  | ((with_reducible first | apply zP | apply zQ | apply zR | apply zL) <;> intro h <;> try (exfalso; first | omega | exact h rfl | (revert h; decide) | (cases h; done)))
  | ((with_reducible show False); omega)
  | ((first | (with_reducible first | apply zW | apply zV | apply zU | apply zS | apply zX | show VX _ _ _ _ _ _ _ | show vstep _ _ _ _ _ | show vskip _ _ _ | show withV _ _) | ((with_reducible show endA _ _ _ _ _ _ _); simp -implicitDefEqProofs only [endA]) | (with_reducible first | refine zB default (by first | omega | (simp only [LN]; omega)) (by first | omega | (simp only [LN]; omega)) ?_ | refine zC default (by first | omega | (simp only [LN]; omega)) ?_ | refine And.intro (by first | decide | omega | assumption | (simp only [LN]; omega)) ?_) | (with_reducible first | apply zG | apply zH | apply zI | apply hidePI_own) | ((with_reducible apply zJ); (first | exact k1 | fail)) | ((with_reducible show pickE _ _ _); first | refine zA _ ⟨by omega, by rfl⟩ ?_ | refine zA _ (by rfl) ?_) | fail); try simp -dsimp -implicitDefEqProofs (maxSteps := 1000000) (disch := first | omega | (simp only [LN]; omega)) only [go_sem])
  | fail)
 all_goals first | omega
theorem kDel0 (A : Dv) (J : JT) (hr : Rd A 0) (a : Nat) (ha : a < 30) (W : Nat → Int) (sl : List Nat) (c : Nat) (hn : Nd A a W sl c) (key : Int) (i : Nat) (hi : FndI W sl key i) (hf : i < sl.length ∧ W (4 + sl.getD i default) = key) (hs : Sl (sl.take i ++ sl.drop (i + 1))) : ACalls Tryz.prog 14 [.agg [.ifc 43 (.loc 4 0), .p (eP a)], .p (.v (.int .u64 key))] [deO A 1 2 3 4, peO A, cuO A, liO A J 12, thO A 0 0 20, thO A 1 0 20, thO A 2 0 20, thO A 3 0 20, thO A 4 0 20, thO A 5 0 20, thO A 6 0 20, thO A 7 0 20, hiO A J 0, hiO A J 1, hiO A J 2, hiO A J 3, hiO A J 4, hiO A J 5, hiO A J 6, hiO A J 7, noO A 0, noO A 1, noO A 2, noO A 3, noO A 4, noO A 5, noO A 6, noO A 7] (.tup [.p (.view 3 ((cmt (wO a 0) (perm (sl.take i ++ sl.drop (i + 1)) (c % 4096 + 1) : Nat)).map eIn)), .p (.v (.int .i64 0))]) [deO A 1 2 3 4, peO A, cuO A, liO A J 12, thO A 0 0 20, thO A 1 0 20, thO A 2 0 20, thO A 3 0 20, thO A 4 0 20, thO A 5 0 20, thO A 6 0 20, thO A 7 0 20, hiO A J 0, hiO A J 1, hiO A J 2, hiO A J 3, hiO A J 4, hiO A J 5, hiO A J 6, hiO A J 7, noO A 0, noO A 1, noO A 2, noO A 3, noO A 4, noO A 5, noO A 6, noO A 7] := by
 refine yA (E := E) (fn := Tryz.f14) 53 [.tmp 4, .tmp 5] rfl rfl rfl rfl (by decide) rfl rfl ?_
 have k1 := kRead0 A J hr a ha W sl c hn
 have k2 := kFind W sl (c % 4096) hn.so key i hi
 have k3 := kLat A J 0 (by omega) a ha 0 (by omega)
 have k4 := kOrder (sl.take i ++ sl.drop (i + 1)) hs (c % 4096 + 1) (by omega)
 have k5 := kCommit0 (wO a 0) (perm (sl.take i ++ sl.drop (i + 1)) (c % 4096 + 1) : Nat)
 rw [List.map_append] at k4
 obtain ⟨f1, f2⟩ := hf
 have h2 := hn.so.2.2
 rw [decide_eq_true f1, decide_eq_true f2] at k2
 have w3 : IntKind.i64.wrap ((i : Int) + 1) = ((i + 1 : Nat) : Int) := by rw [IntKind.wrap_i64]; push_cast; omega
 have w4 : IntKind.u64.wrap (((c % 4096 : Nat) : Int) + 1) = ((c % 4096 + 1 : Nat) : Int) := (u64w (by omega) (by omega)).trans (by omega)
 repeat' (first
  | (with_reducible first | apply zY | apply zT | apply zM | apply zN | apply zO | refine chk_ok (by kernel_rfl) ?_)
  | ((with_reducible first | apply zP | apply zQ | apply zR | apply zL) <;> intro h <;> try (exfalso; first | omega | exact h rfl | (revert h; decide) | (cases h; done)))
  | ((with_reducible show False); omega)
  | ((first | (with_reducible first | apply zW | apply zV | apply zU | apply zS | apply zX | show VX _ _ _ _ _ _ _ | show vstep _ _ _ _ _ | show vskip _ _ _ | show withV _ _) | ((with_reducible show endA _ _ _ _ _ _ _); simp -implicitDefEqProofs only [endA]) | (with_reducible first | refine zB default (by first | omega | (simp only [LN, w3, w4]; omega)) (by first | omega | (simp only [LN, w3, w4]; omega)) ?_ | refine zC default (by first | omega | (simp only [LN, w3, w4]; omega)) ?_ | refine And.intro (by first | decide | omega | assumption | (simp only [LN, w3, w4]; omega)) ?_) | ((with_reducible apply zD); (first | exact k4 | exact k5 | fail)) | ((with_reducible apply zE); (first | exact k4 | exact k5 | fail); rfl) | ((with_reducible apply zF); (first | exact k4 | exact k5 | fail)) | (with_reducible first | apply zG | apply zH | apply zI | apply hidePI_own) | ((with_reducible apply zJ); (first | exact k1 | exact k2 | exact k3 | fail)) | ((with_reducible show pickE _ _ _); first | refine zA _ ⟨by omega, by rfl⟩ ?_ | refine zA _ (by rfl) ?_) | fail); try simp -dsimp -implicitDefEqProofs (maxSteps := 1000000) (disch := first | omega | (simp only [LN, w3, w4]; omega)) only [go_sem, w3, w4])
  | fail)
 all_goals first | omega
theorem kDel1 (A : Dv) (J : JT) (hr : Rd A 0) (a : Nat) (ha : a < 30) (W : Nat → Int) (sl : List Nat) (c : Nat) (hn : Nd A a W sl c) (key : Int) (i : Nat) (hi : FndI W sl key i) (hf : ¬ (i < sl.length ∧ W (4 + sl.getD i default) = key)) : ACalls Tryz.prog 14 [.agg [.ifc 43 (.loc 4 0), .p (eP a)], .p (.v (.int .u64 key))] [deO A 1 2 3 4, peO A, cuO A, liO A J 12, thO A 0 0 20, thO A 1 0 20, thO A 2 0 20, thO A 3 0 20, thO A 4 0 20, thO A 5 0 20, thO A 6 0 20, thO A 7 0 20, hiO A J 0, hiO A J 1, hiO A J 2, hiO A J 3, hiO A J 4, hiO A J 5, hiO A J 6, hiO A J 7, noO A 0, noO A 1, noO A 2, noO A 3, noO A 4, noO A 5, noO A 6, noO A 7] (.tup [.p (.view 3 []), .p (.v (.int .i64 5))]) [deO A 1 2 3 4, peO A, cuO A, liO A J 12, thO A 0 0 20, thO A 1 0 20, thO A 2 0 20, thO A 3 0 20, thO A 4 0 20, thO A 5 0 20, thO A 6 0 20, thO A 7 0 20, hiO A J 0, hiO A J 1, hiO A J 2, hiO A J 3, hiO A J 4, hiO A J 5, hiO A J 6, hiO A J 7, noO A 0, noO A 1, noO A 2, noO A 3, noO A 4, noO A 5, noO A 6, noO A 7] := by
 refine yA (E := E) (fn := Tryz.f14) 53 [.tmp 4, .tmp 5] rfl rfl rfl rfl (by decide) rfl rfl ?_
 have k1 := kRead0 A J hr a ha W sl c hn
 have k2 := kFind W sl (c % 4096) hn.so key i hi
 have hb : (decide (i < sl.length) && decide (W (4 + sl.getD i default) = key)) = false := by simpa using hf
 rw [hb] at k2
 repeat' (first
  | (with_reducible first | apply zY | apply zT | apply zM | apply zN | apply zO | refine chk_ok (by kernel_rfl) ?_)
  | ((with_reducible first | apply zP | apply zQ | apply zR | apply zL) <;> intro h <;> try (exfalso; first | omega | exact h rfl | (revert h; decide) | (cases h; done)))
  | ((with_reducible show False); omega)
  | ((first | (with_reducible first | apply zW | apply zV | apply zU | apply zS | apply zX | show VX _ _ _ _ _ _ _ | show vstep _ _ _ _ _ | show vskip _ _ _ | show withV _ _) | ((with_reducible show endA _ _ _ _ _ _ _); simp -implicitDefEqProofs only [endA]) | (with_reducible first | refine zB default (by first | omega | (simp only [LN]; omega)) (by first | omega | (simp only [LN]; omega)) ?_ | refine zC default (by first | omega | (simp only [LN]; omega)) ?_ | refine And.intro (by first | decide | omega | assumption | (simp only [LN]; omega)) ?_) | (with_reducible first | apply zG | apply zH | apply zI | apply hidePI_own) | ((with_reducible apply zJ); (first | exact k1 | exact k2 | fail)) | ((with_reducible show pickE _ _ _); first | refine zA _ ⟨by omega, by rfl⟩ ?_ | refine zA _ (by rfl) ?_) | fail); try simp -dsimp -implicitDefEqProofs (maxSteps := 1000000) (disch := first | omega | (simp only [LN]; omega)) only [go_sem])
  | fail)
 all_goals first | omega
end Go.Proofs.YtegekpjkbedngaaGreat
namespace Go.Proofs.YtegekpjkbedngaaGreat
set_option maxHeartbeats 4000000
set_option maxRecDepth 100000
open Go Go.Ab
attribute [local irreducible] callK callF loopQ vstep vskip pickE hideP
abbrev En := Int × Int
def stS (key v : Int) (s : List En × Bool) (e : En) : List En × Bool :=
 let s1 := if s.2 = false ∧ key ≤ e.1 then (s.1 ++ [(key, v)], true) else s
 if e.1 = key then s1 else (s1.1 ++ [e], s1.2)
def sF (key v : Int) (l : List En) : List En × Bool := l.foldl (stS key v) ([], false)
theorem sF_0 (key v : Int) : sF key v ([] : List En) = ([], false) := rfl
theorem sF_s (key v : Int) (l : List En) {i : Nat} (hi : i < l.length) : sF key v (l.take (i + 1)) = stS key v (sF key v (l.take i)) (l.getD i default) := by
 unfold sF; rw [yE default hi, List.foldl_append]; rfl
def setR (l : List En) (key v : Int) : List En := if (sF key v l).2 = true then (sF key v l).1 else (sF key v l).1 ++ [(key, v)]
theorem sF_len (key v : Int) (l : List En) : (sF key v l).1.length ≤ 2 * l.length := by
 have : ∀ (l : List En) (s : List En × Bool), (l.foldl (stS key v) s).1.length ≤ s.1.length + 2 * l.length := by
  intro l
  induction l with
  | nil => intro s; simp
  | cons e l ih =>
   intro s
   refine Nat.le_trans (ih _) ?_
   have : (stS key v s e).1.length ≤ s.1.length + 2 := by unfold stS; split <;> split <;> simp
   rw [List.length_cons]; omega
 have h := this l ([], false)
 unfold sF; simpa using h
attribute [local go_sem] eWr
theorem kSet (l : List En) (hl : l.length ≤ 1000000) (key v : Int) : PCalls Tryz.prog 30 [.view 2 (l.map eWr), .v (.int .u64 key), .v (.int .u64 v)] (.view 2 ((setR l key v).map eWr)) := by
 refine yD ⟨_, rfl, rfl, by decide⟩ fun hf => ?_
 simp only [go_sem, big] at hf
 refine yB (E := E) (fn := Tryz.f30) 49 [.tmp 6] rfl rfl rfl rfl (by decide) rfl ?_
 have q0 : (sF key v []).1.length = 0 := rfl
 repeat' (first
  | (with_reducible first | apply zY | apply zT | apply zM | apply zN | apply zO | refine chk_ok (by kernel_rfl) ?_)
  | ((with_reducible first | apply zP | apply zQ | apply zR | apply zL) <;> intro h <;> try (exfalso; first | omega | exact h rfl | (revert h; decide) | (cases h; done)))
  | ((with_reducible show False); omega)
  | ((first | (with_reducible first | apply zW | apply zV | apply zU | apply zS | apply zX | show VX _ _ _ _ _ _ _ | show vstep _ _ _ _ _ | show vskip _ _ _ | show withV _ _) | ((with_reducible show endA _ _ _ _ _ _ _); simp -implicitDefEqProofs only [endA]) | (with_reducible first | refine zB default (by first | omega | (simp only [LN]; omega)) (by first | omega | (simp only [LN]; omega)) ?_ | refine zC default (by first | omega | (simp only [LN]; omega)) ?_ | refine And.intro (by first | decide | omega | assumption | (simp only [LN]; omega)) ?_) | ((with_reducible show pickE _ _ _); first | refine zA _ ⟨by omega, by rfl⟩ ?_ | refine zA _ (by rfl) ?_) | fail); try simp -dsimp -implicitDefEqProofs (maxSteps := 1000000) (disch := first | omega | (simp only [LN]; omega)) only [go_sem])
  | fail)
 refine r_loopA (α := Nat) [1, 2, 11, 12] (fun i b => [(13, aI i), (7, .sl b 2 0 (sF key v (l.take i)).1.length), (8, .p (.v (.bool (sF key v (l.take i)).2)))]) (fun i b => []) (fun i => [.arr 2 ((sF key v (l.take i)).1.map eWr)]) (fun i => i ≤ l.length) (fun i => l.length - i) (0) ?h0_1 ?hs0_1 ?I_1 ?hI_1 ?round_1
 case hI_1 => intro x; (simp -dsimp -implicitDefEqProofs (maxSteps := 1000000) (disch := first | omega | (simp only [LN]; omega)) only [go_sem]) <;> exact rfl
 case hs0_1 => refine wk_auto ?_; (simp -dsimp -implicitDefEqProofs (maxSteps := 1000000) (disch := first | omega | (simp only [LN, List.take_zero, sF_0]; omega)) only [go_sem, List.take_zero, sF_0]) <;> (try omega)
 case h0_1 => exact Nat.zero_le _
 case round_1 =>
  intro i hi
  have w3 : IntKind.i64.wrap ((i : Int) + 1) = ((i + 1 : Nat) : Int) := by rw [IntKind.wrap_i64]; push_cast; omega
  have hlen := sF_len key v (l.take i)
  have hlt := List.length_take_le i l
  by_cases hi2 : i < l.length
  ·have hs := sF_s key v l hi2
   generalize hxx : l.getD i default = x at *
   generalize sF key v (l.take i) = s at *
   obtain ⟨o, d⟩ := s
   obtain ⟨x1, x2⟩ := x
   simp only [stS] at hs hlen
   cases d
   ·by_cases hc : key ≤ x1
    ·by_cases he : x1 = key
     ·simp only [hc, he, and_self, if_true, Int.le_refl] at hs
      repeat' (first
       | (with_reducible first | apply zY | apply zT | apply zM | apply zN | apply zO | refine chk_ok (by kernel_rfl) ?_)
       | ((with_reducible first | apply zP | apply zQ | apply zR | apply zL) <;> intro h <;> try (exfalso; first | omega | exact h rfl | (revert h; decide) | (cases h; done)))
       | ((with_reducible show False); omega)
       | ((first | (with_reducible first | apply zW | apply zV | apply zU | apply zS | apply zX | show VX _ _ _ _ _ _ _ | show vstep _ _ _ _ _ | show vskip _ _ _ | show withV _ _) | ((with_reducible show endA _ _ _ _ _ _ _); simp -implicitDefEqProofs only [endA]) | (with_reducible first | refine zB default (by first | omega | (simp only [LN, hxx]; omega)) (by first | omega | (simp only [LN, hxx]; omega)) ?_ | refine zC default (by first | omega | (simp only [LN, hxx]; omega)) ?_ | refine And.intro (by first | decide | omega | assumption | (simp only [LN, hxx]; omega)) ?_) | ((with_reducible show pickE _ _ _); first | refine zA _ ⟨by omega, by rfl⟩ ?_ | refine zA _ (by rfl) ?_) | fail); try simp -dsimp -implicitDefEqProofs (maxSteps := 1000000) (disch := first | omega | (simp only [LN, hxx]; omega)) only [go_sem, hxx])
       | fail)
      all_goals first | omega | ((refine zZ (i + 1) ?_ ?_ ?_; (omega); (show _ < _; omega); (simp -dsimp -implicitDefEqProofs (maxSteps := 1000000) (disch := first | omega | (simp only [LN, w3, hs, List.map_append, he]; omega)) only [go_sem, w3, hs, List.map_append, he]; try trivial)))
     ·simp only [hc, he, and_self, if_true, if_false] at hs
      repeat' (first
       | (with_reducible first | apply zY | apply zT | apply zM | apply zN | apply zO | refine chk_ok (by kernel_rfl) ?_)
       | ((with_reducible first | apply zP | apply zQ | apply zR | apply zL) <;> intro h <;> try (exfalso; first | omega | exact h rfl | (revert h; decide) | (cases h; done)))
       | ((with_reducible show False); omega)
       | ((first | (with_reducible first | apply zW | apply zV | apply zU | apply zS | apply zX | show VX _ _ _ _ _ _ _ | show vstep _ _ _ _ _ | show vskip _ _ _ | show withV _ _) | ((with_reducible show endA _ _ _ _ _ _ _); simp -implicitDefEqProofs only [endA]) | (with_reducible first | refine zB default (by first | omega | (simp only [LN, hxx]; omega)) (by first | omega | (simp only [LN, hxx]; omega)) ?_ | refine zC default (by first | omega | (simp only [LN, hxx]; omega)) ?_ | refine And.intro (by first | decide | omega | assumption | (simp only [LN, hxx]; omega)) ?_) | ((with_reducible show pickE _ _ _); first | refine zA _ ⟨by omega, by rfl⟩ ?_ | refine zA _ (by rfl) ?_) | fail); try simp -dsimp -implicitDefEqProofs (maxSteps := 1000000) (disch := first | omega | (simp only [LN, hxx]; omega)) only [go_sem, hxx])
       | fail)
      all_goals first | omega | ((refine zZ (i + 1) ?_ ?_ ?_; (omega); (show _ < _; omega); (simp -dsimp -implicitDefEqProofs (maxSteps := 1000000) (disch := first | omega | (simp only [LN, w3, hs, List.map_append]; omega)) only [go_sem, w3, hs, List.map_append]; try trivial)))
    ·have he : ¬ x1 = key := by omega
     simp only [hc, he, and_false, if_false] at hs
     repeat' (first
      | (with_reducible first | apply zY | apply zT | apply zM | apply zN | apply zO | refine chk_ok (by kernel_rfl) ?_)
      | ((with_reducible first | apply zP | apply zQ | apply zR | apply zL) <;> intro h <;> try (exfalso; first | omega | exact h rfl | (revert h; decide) | (cases h; done)))
      | ((with_reducible show False); omega)
      | ((first | (with_reducible first | apply zW | apply zV | apply zU | apply zS | apply zX | show VX _ _ _ _ _ _ _ | show vstep _ _ _ _ _ | show vskip _ _ _ | show withV _ _) | ((with_reducible show endA _ _ _ _ _ _ _); simp -implicitDefEqProofs only [endA]) | (with_reducible first | refine zB default (by first | omega | (simp only [LN, hxx]; omega)) (by first | omega | (simp only [LN, hxx]; omega)) ?_ | refine zC default (by first | omega | (simp only [LN, hxx]; omega)) ?_ | refine And.intro (by first | decide | omega | assumption | (simp only [LN, hxx]; omega)) ?_) | ((with_reducible show pickE _ _ _); first | refine zA _ ⟨by omega, by rfl⟩ ?_ | refine zA _ (by rfl) ?_) | fail); try simp -dsimp -implicitDefEqProofs (maxSteps := 1000000) (disch := first | omega | (simp only [LN, hxx]; omega)) only [go_sem, hxx])
      | fail)
     all_goals first | omega | ((refine zZ (i + 1) ?_ ?_ ?_; (omega); (show _ < _; omega); (simp -dsimp -implicitDefEqProofs (maxSteps := 1000000) (disch := first | omega | (simp only [LN, w3, hs, List.map_append]; omega)) only [go_sem, w3, hs, List.map_append]; try trivial)))
   ·by_cases he : x1 = key
    ·simp only [he, Bool.true_eq_false, false_and, if_true, if_false] at hs
     repeat' (first
      | (with_reducible first | apply zY | apply zT | apply zM | apply zN | apply zO | refine chk_ok (by kernel_rfl) ?_)
      | ((with_reducible first | apply zP | apply zQ | apply zR | apply zL) <;> intro h <;> try (exfalso; first | omega | exact h rfl | (revert h; decide) | (cases h; done)))
      | ((with_reducible show False); omega)
      | ((first | (with_reducible first | apply zW | apply zV | apply zU | apply zS | apply zX | show VX _ _ _ _ _ _ _ | show vstep _ _ _ _ _ | show vskip _ _ _ | show withV _ _) | ((with_reducible show endA _ _ _ _ _ _ _); simp -implicitDefEqProofs only [endA]) | (with_reducible first | refine zB default (by first | omega | (simp only [LN, hxx]; omega)) (by first | omega | (simp only [LN, hxx]; omega)) ?_ | refine zC default (by first | omega | (simp only [LN, hxx]; omega)) ?_ | refine And.intro (by first | decide | omega | assumption | (simp only [LN, hxx]; omega)) ?_) | ((with_reducible show pickE _ _ _); first | refine zA _ ⟨by omega, by rfl⟩ ?_ | refine zA _ (by rfl) ?_) | fail); try simp -dsimp -implicitDefEqProofs (maxSteps := 1000000) (disch := first | omega | (simp only [LN, hxx]; omega)) only [go_sem, hxx])
      | fail)
     all_goals first | omega | ((refine zZ (i + 1) ?_ ?_ ?_; (omega); (show _ < _; omega); (simp -dsimp -implicitDefEqProofs (maxSteps := 1000000) (disch := first | omega | (simp only [LN, w3, hs, List.map_append]; omega)) only [go_sem, w3, hs, List.map_append]; try trivial)))
    ·simp only [he, Bool.true_eq_false, false_and, if_false] at hs
     repeat' (first
      | (with_reducible first | apply zY | apply zT | apply zM | apply zN | apply zO | refine chk_ok (by kernel_rfl) ?_)
      | ((with_reducible first | apply zP | apply zQ | apply zR | apply zL) <;> intro h <;> try (exfalso; first | omega | exact h rfl | (revert h; decide) | (cases h; done)))
      | ((with_reducible show False); omega)
      | ((first | (with_reducible first | apply zW | apply zV | apply zU | apply zS | apply zX | show VX _ _ _ _ _ _ _ | show vstep _ _ _ _ _ | show vskip _ _ _ | show withV _ _) | ((with_reducible show endA _ _ _ _ _ _ _); simp -implicitDefEqProofs only [endA]) | (with_reducible first | refine zB default (by first | omega | (simp only [LN, hxx]; omega)) (by first | omega | (simp only [LN, hxx]; omega)) ?_ | refine zC default (by first | omega | (simp only [LN, hxx]; omega)) ?_ | refine And.intro (by first | decide | omega | assumption | (simp only [LN, hxx]; omega)) ?_) | ((with_reducible show pickE _ _ _); first | refine zA _ ⟨by omega, by rfl⟩ ?_ | refine zA _ (by rfl) ?_) | fail); try simp -dsimp -implicitDefEqProofs (maxSteps := 1000000) (disch := first | omega | (simp only [LN, hxx]; omega)) only [go_sem, hxx])
      | fail)
     all_goals first | omega | ((refine zZ (i + 1) ?_ ?_ ?_; (omega); (show _ < _; omega); (simp -dsimp -implicitDefEqProofs (maxSteps := 1000000) (disch := first | omega | (simp only [LN, w3, hs, List.map_append]; omega)) only [go_sem, w3, hs, List.map_append]; try trivial)))
  ·obtain rfl : i = l.length := by omega
   rw [List.take_length] at *
   have hset : setR l key v = if (sF key v l).2 = true then (sF key v l).1 else (sF key v l).1 ++ [(key, v)] := rfl
   generalize sF key v l = s at *
   obtain ⟨o, d⟩ := s
   dsimp only at hlen
   cases d
   ·repeat' (first
     | (with_reducible first | apply zY | apply zT | apply zM | apply zN | apply zO | refine chk_ok (by kernel_rfl) ?_)
     | ((with_reducible first | apply zP | apply zQ | apply zR | apply zL) <;> intro h <;> try (exfalso; first | omega | exact h rfl | (revert h; decide) | (cases h; done)))
     | ((with_reducible show False); omega)
     | ((first | (with_reducible first | apply zW | apply zV | apply zU | apply zS | apply zX | show VX _ _ _ _ _ _ _ | show vstep _ _ _ _ _ | show vskip _ _ _ | show withV _ _) | ((with_reducible show endA _ _ _ _ _ _ _); simp -implicitDefEqProofs only [endA]) | (with_reducible first | refine zB default (by first | omega | (simp only [LN, hset]; omega)) (by first | omega | (simp only [LN, hset]; omega)) ?_ | refine zC default (by first | omega | (simp only [LN, hset]; omega)) ?_ | refine And.intro (by first | decide | omega | assumption | (simp only [LN, hset]; omega)) ?_) | ((with_reducible show pickE _ _ _); first | refine zA _ ⟨by omega, by rfl⟩ ?_ | refine zA _ (by rfl) ?_) | fail); try simp -dsimp -implicitDefEqProofs (maxSteps := 1000000) (disch := first | omega | (simp only [LN, hset]; omega)) only [go_sem, hset])
     | fail)
    all_goals first | omega | (simp [hset, eWr]; done)
   ·repeat' (first
     | (with_reducible first | apply zY | apply zT | apply zM | apply zN | apply zO | refine chk_ok (by kernel_rfl) ?_)
     | ((with_reducible first | apply zP | apply zQ | apply zR | apply zL) <;> intro h <;> try (exfalso; first | omega | exact h rfl | (revert h; decide) | (cases h; done)))
     | ((with_reducible show False); omega)
     | ((first | (with_reducible first | apply zW | apply zV | apply zU | apply zS | apply zX | show VX _ _ _ _ _ _ _ | show vstep _ _ _ _ _ | show vskip _ _ _ | show withV _ _) | ((with_reducible show endA _ _ _ _ _ _ _); simp -implicitDefEqProofs only [endA]) | (with_reducible first | refine zB default (by first | omega | (simp only [LN, hset]; omega)) (by first | omega | (simp only [LN, hset]; omega)) ?_ | refine zC default (by first | omega | (simp only [LN, hset]; omega)) ?_ | refine And.intro (by first | decide | omega | assumption | (simp only [LN, hset]; omega)) ?_) | ((with_reducible show pickE _ _ _); first | refine zA _ ⟨by omega, by rfl⟩ ?_ | refine zA _ (by rfl) ?_) | fail); try simp -dsimp -implicitDefEqProofs (maxSteps := 1000000) (disch := first | omega | (simp only [LN, hset]; omega)) only [go_sem, hset])
     | fail)
    all_goals first | omega | (simp [hset, eWr]; done)
def uF (key : Int) (l : List En) : List En := l.filter fun e => decide (¬ e.1 = key)
def uD (key : Int) (l : List En) : Bool := l.any fun e => decide (e.1 = key)
theorem uF_s (key : Int) (l : List En) {i : Nat} (hi : i < l.length) : uF key (l.take (i + 1)) = if (l.getD i default).1 = key then uF key (l.take i) else uF key (l.take i) ++ [l.getD i default] := by
 unfold uF; rw [yE default hi, List.filter_append]
 by_cases h : (l.getD i default).1 = key
 ·rw [if_pos h, List.filter_cons_of_neg (by simpa using h)]; simp
 ·rw [if_neg h, List.filter_cons_of_pos (by simpa using h)]; simp
theorem uD_s (key : Int) (l : List En) {i : Nat} (hi : i < l.length) : uD key (l.take (i + 1)) = (uD key (l.take i) || decide ((l.getD i default).1 = key)) := by
 unfold uD; rw [yE default hi, List.any_append]; simp
theorem kUnset (l : List En) (hl : l.length ≤ 1000000) (key : Int) : PCalls Tryz.prog 31 [.view 2 (l.map eWr), .v (.int .u64 key)] (.tup [.view 2 ((uF key l).map eWr), .v (.bool (uD key l))]) := by
 refine yD ⟨_, rfl, rfl, by decide⟩ fun hf => ?_
 simp only [go_sem, big] at hf
 refine yB (E := E) (fn := Tryz.f31) 27 [.tmp 4, .tmp 5] rfl rfl rfl rfl (by decide) rfl ?_
 have q0 : uF key [] = [] := rfl
 have q1 : uD key [] = false := rfl
 repeat' (first
  | (with_reducible first | apply zY | apply zT | apply zM | apply zN | apply zO | refine chk_ok (by kernel_rfl) ?_)
  | ((with_reducible first | apply zP | apply zQ | apply zR | apply zL) <;> intro h <;> try (exfalso; first | omega | exact h rfl | (revert h; decide) | (cases h; done)))
  | ((with_reducible show False); omega)
  | ((first | (with_reducible first | apply zW | apply zV | apply zU | apply zS | apply zX | show VX _ _ _ _ _ _ _ | show vstep _ _ _ _ _ | show vskip _ _ _ | show withV _ _) | ((with_reducible show endA _ _ _ _ _ _ _); simp -implicitDefEqProofs only [endA]) | (with_reducible first | refine zB default (by first | omega | (simp only [LN]; omega)) (by first | omega | (simp only [LN]; omega)) ?_ | refine zC default (by first | omega | (simp only [LN]; omega)) ?_ | refine And.intro (by first | decide | omega | assumption | (simp only [LN]; omega)) ?_) | ((with_reducible show pickE _ _ _); first | refine zA _ ⟨by omega, by rfl⟩ ?_ | refine zA _ (by rfl) ?_) | fail); try simp -dsimp -implicitDefEqProofs (maxSteps := 1000000) (disch := first | omega | (simp only [LN]; omega)) only [go_sem])
  | fail)
 refine r_loopA (α := Nat) [1, 10, 11] (fun i b => [(12, aI i), (6, .sl b 2 0 (uF key (l.take i)).length), (7, .p (.v (.bool (uD key (l.take i)))))]) (fun i b => []) (fun i => [.arr 2 ((uF key (l.take i)).map eWr)]) (fun i => i ≤ l.length) (fun i => l.length - i) (0) ?h0_2 ?hs0_2 ?I_2 ?hI_2 ?round_2
 case hI_2 => intro x; (simp -dsimp -implicitDefEqProofs (maxSteps := 1000000) (disch := first | omega | (simp only [LN]; omega)) only [go_sem]) <;> exact rfl
 case hs0_2 => refine wk_auto ?_; (simp -dsimp -implicitDefEqProofs (maxSteps := 1000000) (disch := first | omega | (simp only [LN, List.take_zero, q0, q1]; omega)) only [go_sem, List.take_zero, q0, q1]) <;> (try omega)
 case h0_2 => exact Nat.zero_le _
 case round_2 =>
  intro i hi
  have w3 : IntKind.i64.wrap ((i : Int) + 1) = ((i + 1 : Nat) : Int) := by rw [IntKind.wrap_i64]; push_cast; omega
  have hlen : (uF key (l.take i)).length ≤ (l.take i).length := List.length_filter_le _ _
  have hlt := List.length_take_le i l
  by_cases hi2 : i < l.length
  ·have hs := uF_s key l hi2
   have hd := uD_s key l hi2
   generalize hxx : l.getD i default = x at *
   generalize uF key (l.take i) = o at *
   generalize uD key (l.take i) = d at *
   obtain ⟨x1, x2⟩ := x
   by_cases he : x1 = key
   ·simp only [he, if_true, decide_true, Bool.or_true] at hs hd
    repeat' (first
     | (with_reducible first | apply zY | apply zT | apply zM | apply zN | apply zO | refine chk_ok (by kernel_rfl) ?_)
     | ((with_reducible first | apply zP | apply zQ | apply zR | apply zL) <;> intro h <;> try (exfalso; first | omega | exact h rfl | (revert h; decide) | (cases h; done)))
     | ((with_reducible show False); omega)
     | ((first | (with_reducible first | apply zW | apply zV | apply zU | apply zS | apply zX | show VX _ _ _ _ _ _ _ | show vstep _ _ _ _ _ | show vskip _ _ _ | show withV _ _) | ((with_reducible show endA _ _ _ _ _ _ _); simp -implicitDefEqProofs only [endA]) | (with_reducible first | refine zB default (by first | omega | (simp only [LN, hxx]; omega)) (by first | omega | (simp only [LN, hxx]; omega)) ?_ | refine zC default (by first | omega | (simp only [LN, hxx]; omega)) ?_ | refine And.intro (by first | decide | omega | assumption | (simp only [LN, hxx]; omega)) ?_) | ((with_reducible show pickE _ _ _); first | refine zA _ ⟨by omega, by rfl⟩ ?_ | refine zA _ (by rfl) ?_) | fail); try simp -dsimp -implicitDefEqProofs (maxSteps := 1000000) (disch := first | omega | (simp only [LN, hxx]; omega)) only [go_sem, hxx])
     | fail)
    all_goals first | omega | ((refine zZ (i + 1) ?_ ?_ ?_; (omega); (show _ < _; omega); (simp -dsimp -implicitDefEqProofs (maxSteps := 1000000) (disch := first | omega | (simp only [LN, w3, hs, hd]; omega)) only [go_sem, w3, hs, hd]; try trivial)))
   ·simp only [he, if_false, decide_false, Bool.or_false] at hs hd
    repeat' (first
     | (with_reducible first | apply zY | apply zT | apply zM | apply zN | apply zO | refine chk_ok (by kernel_rfl) ?_)
     | ((with_reducible first | apply zP | apply zQ | apply zR | apply zL) <;> intro h <;> try (exfalso; first | omega | exact h rfl | (revert h; decide) | (cases h; done)))
     | ((with_reducible show False); omega)
     | ((first | (with_reducible first | apply zW | apply zV | apply zU | apply zS | apply zX | show VX _ _ _ _ _ _ _ | show vstep _ _ _ _ _ | show vskip _ _ _ | show withV _ _) | ((with_reducible show endA _ _ _ _ _ _ _); simp -implicitDefEqProofs only [endA]) | (with_reducible first | refine zB default (by first | omega | (simp only [LN, hxx]; omega)) (by first | omega | (simp only [LN, hxx]; omega)) ?_ | refine zC default (by first | omega | (simp only [LN, hxx]; omega)) ?_ | refine And.intro (by first | decide | omega | assumption | (simp only [LN, hxx]; omega)) ?_) | ((with_reducible show pickE _ _ _); first | refine zA _ ⟨by omega, by rfl⟩ ?_ | refine zA _ (by rfl) ?_) | fail); try simp -dsimp -implicitDefEqProofs (maxSteps := 1000000) (disch := first | omega | (simp only [LN, hxx]; omega)) only [go_sem, hxx])
     | fail)
    all_goals first | omega | ((refine zZ (i + 1) ?_ ?_ ?_; (omega); (show _ < _; omega); (simp -dsimp -implicitDefEqProofs (maxSteps := 1000000) (disch := first | omega | (simp only [LN, w3, hs, hd, List.map_append]; omega)) only [go_sem, w3, hs, hd, List.map_append]; try trivial)))
  ·obtain rfl : i = l.length := by omega
   rw [List.take_length] at *
   repeat' (first
    | (with_reducible first | apply zY | apply zT | apply zM | apply zN | apply zO | refine chk_ok (by kernel_rfl) ?_)
    | ((with_reducible first | apply zP | apply zQ | apply zR | apply zL) <;> intro h <;> try (exfalso; first | omega | exact h rfl | (revert h; decide) | (cases h; done)))
    | ((with_reducible show False); omega)
    | ((first | (with_reducible first | apply zW | apply zV | apply zU | apply zS | apply zX | show VX _ _ _ _ _ _ _ | show vstep _ _ _ _ _ | show vskip _ _ _ | show withV _ _) | ((with_reducible show endA _ _ _ _ _ _ _); simp -implicitDefEqProofs only [endA]) | (with_reducible first | refine zB default (by first | omega | (simp only [LN]; omega)) (by first | omega | (simp only [LN]; omega)) ?_ | refine zC default (by first | omega | (simp only [LN]; omega)) ?_ | refine And.intro (by first | decide | omega | assumption | (simp only [LN]; omega)) ?_) | ((with_reducible show pickE _ _ _); first | refine zA _ ⟨by omega, by rfl⟩ ?_ | refine zA _ (by rfl) ?_) | fail); try simp -dsimp -implicitDefEqProofs (maxSteps := 1000000) (disch := first | omega | (simp only [LN]; omega)) only [go_sem])
    | fail)
   all_goals first | omega | (simp; done)
def doR (l : List En) (del : Bool) (key v : Int) : List En := match del with
 | false => setR l key v
 | true => match uD key l with
  | true => uF key l
  | false => l
def doE (l : List En) (del : Bool) (key : Int) : Int := match del with
 | false => 0
 | true => match uD key l with
  | true => 0
  | false => 5
theorem kDo (l : List En) (hl : l.length ≤ 1000000) (del : Bool) (key v : Int) : PCalls Tryz.prog 12 [.view 2 (l.map eWr), .v (.bool del), .v (.int .u64 key), .v (.int .u64 v)] (.tup [.view 2 ((doR l del key v).map eWr), .v (.int .i64 (doE l del key))]) := by
 refine yD ⟨_, rfl, rfl, by decide⟩ fun hf => ?_
 simp only [go_sem, big] at hf
 refine yB (E := E) (fn := Tryz.f12) 28 [.tmp 8, .tmp 9] rfl rfl rfl rfl (by decide) rfl ?_
 have k1 := kSet l hl key v
 have k2 := kUnset l hl key
 cases del
 ·repeat' (first
   | (with_reducible first | apply zY | apply zT | apply zM | apply zN | apply zO | refine chk_ok (by kernel_rfl) ?_)
   | ((with_reducible first | apply zP | apply zQ | apply zR | apply zL) <;> intro h <;> try (exfalso; first | omega | exact h rfl | (revert h; decide) | (cases h; done)))
   | ((with_reducible show False); omega)
   | ((first | (with_reducible first | apply zW | apply zV | apply zU | apply zS | apply zX | show VX _ _ _ _ _ _ _ | show vstep _ _ _ _ _ | show vskip _ _ _ | show withV _ _) | ((with_reducible show endA _ _ _ _ _ _ _); simp -implicitDefEqProofs only [endA]) | (with_reducible first | refine zB default (by first | omega | (simp only [LN]; omega)) (by first | omega | (simp only [LN]; omega)) ?_ | refine zC default (by first | omega | (simp only [LN]; omega)) ?_ | refine And.intro (by first | decide | omega | assumption | (simp only [LN]; omega)) ?_) | ((with_reducible apply zD); (exact k1)) | ((with_reducible apply zE); (exact k1); rfl) | ((with_reducible apply zF); (exact k1)) | ((with_reducible show pickE _ _ _); first | refine zA _ ⟨by omega, by rfl⟩ ?_ | refine zA _ (by rfl) ?_) | fail); try simp -dsimp -implicitDefEqProofs (maxSteps := 1000000) (disch := first | omega | (simp only [LN]; omega)) only [go_sem])
   | fail)
  all_goals first | omega | (simp [doR, doE]; done)
 ·cases hu : uD key l
  ·repeat' (first
    | (with_reducible first | apply zY | apply zT | apply zM | apply zN | apply zO | refine chk_ok (by kernel_rfl) ?_)
    | ((with_reducible first | apply zP | apply zQ | apply zR | apply zL) <;> intro h <;> try (exfalso; first | omega | exact h rfl | (revert h; decide) | (cases h; done)))
    | ((with_reducible show False); omega)
    | ((first | (with_reducible first | apply zW | apply zV | apply zU | apply zS | apply zX | show VX _ _ _ _ _ _ _ | show vstep _ _ _ _ _ | show vskip _ _ _ | show withV _ _) | ((with_reducible show endA _ _ _ _ _ _ _); simp -implicitDefEqProofs only [endA]) | (with_reducible first | refine zB default (by first | omega | (simp only [LN, hu]; omega)) (by first | omega | (simp only [LN, hu]; omega)) ?_ | refine zC default (by first | omega | (simp only [LN, hu]; omega)) ?_ | refine And.intro (by first | decide | omega | assumption | (simp only [LN, hu]; omega)) ?_) | ((with_reducible apply zD); (exact k2)) | ((with_reducible apply zE); (exact k2); rfl) | ((with_reducible apply zF); (exact k2)) | ((with_reducible show pickE _ _ _); first | refine zA _ ⟨by omega, by rfl⟩ ?_ | refine zA _ (by rfl) ?_) | fail); try simp -dsimp -implicitDefEqProofs (maxSteps := 1000000) (disch := first | omega | (simp only [LN, hu]; omega)) only [go_sem, hu])
    | fail)
   all_goals first | omega | (simp [doR, doE, hu]; done)
  ·repeat' (first
    | (with_reducible first | apply zY | apply zT | apply zM | apply zN | apply zO | refine chk_ok (by kernel_rfl) ?_)
    | ((with_reducible first | apply zP | apply zQ | apply zR | apply zL) <;> intro h <;> try (exfalso; first | omega | exact h rfl | (revert h; decide) | (cases h; done)))
    | ((with_reducible show False); omega)
    | ((first | (with_reducible first | apply zW | apply zV | apply zU | apply zS | apply zX | show VX _ _ _ _ _ _ _ | show vstep _ _ _ _ _ | show vskip _ _ _ | show withV _ _) | ((with_reducible show endA _ _ _ _ _ _ _); simp -implicitDefEqProofs only [endA]) | (with_reducible first | refine zB default (by first | omega | (simp only [LN, hu]; omega)) (by first | omega | (simp only [LN, hu]; omega)) ?_ | refine zC default (by first | omega | (simp only [LN, hu]; omega)) ?_ | refine And.intro (by first | decide | omega | assumption | (simp only [LN, hu]; omega)) ?_) | ((with_reducible apply zD); (exact k2)) | ((with_reducible apply zE); (exact k2); rfl) | ((with_reducible apply zF); (exact k2)) | ((with_reducible show pickE _ _ _); first | refine zA _ ⟨by omega, by rfl⟩ ?_ | refine zA _ (by rfl) ?_) | fail); try simp -dsimp -implicitDefEqProofs (maxSteps := 1000000) (disch := first | omega | (simp only [LN, hu]; omega)) only [go_sem, hu])
    | fail)
   all_goals first | omega | (simp [doR, doE, hu]; done)
theorem same_s {a b : List En} {i : Nat} (h : a.length = b.length) (h1 : a.take i = b.take i) (hi : i < a.length) (h2 : a.getD i default = b.getD i default) : a.take (i + 1) = b.take (i + 1) := by
 rw [yE default hi, yE default (h ▸ hi), h1, h2]
theorem same_n {a b : List En} {i : Nat} (hi : i < a.length) (hi2 : i < b.length) (h2 : ¬ a.getD i default = b.getD i default) : ¬ a = b := fun e => h2 (by rw [e])
theorem kSame (a b : List En) (hl : a.length ≤ 1000000) : PCalls Tryz.prog 18 [.view 2 (a.map eWr), .view 2 (b.map eWr)] (.v (.bool (decide (a = b)))) := by
 refine yD ⟨_, rfl, rfl, by decide⟩ fun hf => ?_
 simp only [go_sem, big] at hf
 refine yB (E := E) (fn := Tryz.f18) 26 [.tmp 4] rfl rfl rfl rfl (by decide) rfl ?_
 by_cases hab : a.length = b.length
 ·repeat' (first
   | (with_reducible first | apply zY | apply zT | apply zM | apply zN | apply zO | refine chk_ok (by kernel_rfl) ?_)
   | ((with_reducible first | apply zP | apply zQ | apply zR | apply zL) <;> intro h <;> try (exfalso; first | omega | exact h rfl | (revert h; decide) | (cases h; done)))
   | ((with_reducible show False); omega)
   | ((first | (with_reducible first | apply zW | apply zV | apply zU | apply zS | apply zX | show VX _ _ _ _ _ _ _ | show vstep _ _ _ _ _ | show vskip _ _ _ | show withV _ _) | ((with_reducible show endA _ _ _ _ _ _ _); simp -implicitDefEqProofs only [endA]) | (with_reducible first | refine zB default (by first | omega | (simp only [LN, hab]; omega)) (by first | omega | (simp only [LN, hab]; omega)) ?_ | refine zC default (by first | omega | (simp only [LN, hab]; omega)) ?_ | refine And.intro (by first | decide | omega | assumption | (simp only [LN, hab]; omega)) ?_) | ((with_reducible show pickE _ _ _); first | refine zA _ ⟨by omega, by rfl⟩ ?_ | refine zA _ (by rfl) ?_) | fail); try simp -dsimp -implicitDefEqProofs (maxSteps := 1000000) (disch := first | omega | (simp only [LN, hab]; omega)) only [go_sem, hab])
   | fail)
  all_goals try (exfalso; omega)
  refine r_loopA (α := Nat) [0, 1, 12] (fun i b => [(13, aI i)]) (fun i b => []) (fun i => []) (fun i => i ≤ a.length ∧ a.take i = b.take i) (fun i => a.length - i) (0) ?h0_3 ?hs0_3 ?I_3 ?hI_3 ?round_3
  case hI_3 => intro x; (simp -dsimp -implicitDefEqProofs (maxSteps := 1000000) (disch := first | omega | (simp only [LN]; omega)) only [go_sem]) <;> exact rfl
  case hs0_3 => refine wk_auto ?_; (simp -dsimp -implicitDefEqProofs (maxSteps := 1000000) (disch := first | omega | (simp only [LN]; omega)) only [go_sem]) <;> (try omega)
  case h0_3 => exact ⟨Nat.zero_le _, rfl⟩
  case round_3 =>
   rintro i ⟨hi, hp⟩
   have w3 : IntKind.i64.wrap ((i : Int) + 1) = ((i + 1 : Nat) : Int) := by rw [IntKind.wrap_i64]; push_cast; omega
   by_cases hi2 : i < a.length
   ·have hs := same_s hab hp hi2
    have hn := same_n hi2 (hab ▸ hi2)
    generalize hxx : a.getD i default = x at *
    generalize hyy : b.getD i default = y at *
    obtain ⟨x1, x2⟩ := x
    obtain ⟨y1, y2⟩ := y
    by_cases he : x1 = y1
    ·by_cases he2 : x2 = y2
     ·subst he; subst he2
      have hs := hs rfl
      repeat' (first
       | (with_reducible first | apply zY | apply zT | apply zM | apply zN | apply zO | refine chk_ok (by kernel_rfl) ?_)
       | ((with_reducible first | apply zP | apply zQ | apply zR | apply zL) <;> intro h <;> try (exfalso; first | omega | exact h rfl | (revert h; decide) | (cases h; done)))
       | ((with_reducible show False); omega)
       | ((first | (with_reducible first | apply zW | apply zV | apply zU | apply zS | apply zX | show VX _ _ _ _ _ _ _ | show vstep _ _ _ _ _ | show vskip _ _ _ | show withV _ _) | ((with_reducible show endA _ _ _ _ _ _ _); simp -implicitDefEqProofs only [endA]) | (with_reducible first | refine zB default (by first | omega | (simp only [LN, hxx, hyy, hab]; omega)) (by first | omega | (simp only [LN, hxx, hyy, hab]; omega)) ?_ | refine zC default (by first | omega | (simp only [LN, hxx, hyy, hab]; omega)) ?_ | refine And.intro (by first | decide | omega | assumption | (simp only [LN, hxx, hyy, hab]; omega)) ?_) | ((with_reducible show pickE _ _ _); first | refine zA _ ⟨by omega, by rfl⟩ ?_ | refine zA _ (by rfl) ?_) | fail); try simp -dsimp -implicitDefEqProofs (maxSteps := 1000000) (disch := first | omega | (simp only [LN, hxx, hyy, hab]; omega)) only [go_sem, hxx, hyy, hab])
       | fail)
      all_goals first | omega | ((refine zZ (i + 1) ?_ ?_ ?_; (exact ⟨by omega, hs⟩); (show _ < _; omega); (simp -dsimp -implicitDefEqProofs (maxSteps := 1000000) (disch := first | omega | (simp only [LN, w3]; omega)) only [go_sem, w3]; try trivial)))
     ·have hn := hn (by simp [he2])
      repeat' (first
       | (with_reducible first | apply zY | apply zT | apply zM | apply zN | apply zO | refine chk_ok (by kernel_rfl) ?_)
       | ((with_reducible first | apply zP | apply zQ | apply zR | apply zL) <;> intro h <;> try (exfalso; first | omega | exact h rfl | (revert h; decide) | (cases h; done)))
       | ((with_reducible show False); omega)
       | ((first | (with_reducible first | apply zW | apply zV | apply zU | apply zS | apply zX | show VX _ _ _ _ _ _ _ | show vstep _ _ _ _ _ | show vskip _ _ _ | show withV _ _) | ((with_reducible show endA _ _ _ _ _ _ _); simp -implicitDefEqProofs only [endA]) | (with_reducible first | refine zB default (by first | omega | (simp only [LN, hxx, hyy, hab]; omega)) (by first | omega | (simp only [LN, hxx, hyy, hab]; omega)) ?_ | refine zC default (by first | omega | (simp only [LN, hxx, hyy, hab]; omega)) ?_ | refine And.intro (by first | decide | omega | assumption | (simp only [LN, hxx, hyy, hab]; omega)) ?_) | ((with_reducible show pickE _ _ _); first | refine zA _ ⟨by omega, by rfl⟩ ?_ | refine zA _ (by rfl) ?_) | fail); try simp -dsimp -implicitDefEqProofs (maxSteps := 1000000) (disch := first | omega | (simp only [LN, hxx, hyy, hab]; omega)) only [go_sem, hxx, hyy, hab])
       | fail)
      all_goals first | omega | (simp [hn]; done)
    ·have hn := hn (by simp [he])
     repeat' (first
      | (with_reducible first | apply zY | apply zT | apply zM | apply zN | apply zO | refine chk_ok (by kernel_rfl) ?_)
      | ((with_reducible first | apply zP | apply zQ | apply zR | apply zL) <;> intro h <;> try (exfalso; first | omega | exact h rfl | (revert h; decide) | (cases h; done)))
      | ((with_reducible show False); omega)
      | ((first | (with_reducible first | apply zW | apply zV | apply zU | apply zS | apply zX | show VX _ _ _ _ _ _ _ | show vstep _ _ _ _ _ | show vskip _ _ _ | show withV _ _) | ((with_reducible show endA _ _ _ _ _ _ _); simp -implicitDefEqProofs only [endA]) | (with_reducible first | refine zB default (by first | omega | (simp only [LN, hxx, hyy, hab]; omega)) (by first | omega | (simp only [LN, hxx, hyy, hab]; omega)) ?_ | refine zC default (by first | omega | (simp only [LN, hxx, hyy, hab]; omega)) ?_ | refine And.intro (by first | decide | omega | assumption | (simp only [LN, hxx, hyy, hab]; omega)) ?_) | ((with_reducible show pickE _ _ _); first | refine zA _ ⟨by omega, by rfl⟩ ?_ | refine zA _ (by rfl) ?_) | fail); try simp -dsimp -implicitDefEqProofs (maxSteps := 1000000) (disch := first | omega | (simp only [LN, hxx, hyy, hab]; omega)) only [go_sem, hxx, hyy, hab])
      | fail)
     all_goals first | omega | (simp [hn]; done)
   ·obtain rfl : i = a.length := by omega
    rw [List.take_length, hab, List.take_length] at hp
    repeat' (first
     | (with_reducible first | apply zY | apply zT | apply zM | apply zN | apply zO | refine chk_ok (by kernel_rfl) ?_)
     | ((with_reducible first | apply zP | apply zQ | apply zR | apply zL) <;> intro h <;> try (exfalso; first | omega | exact h rfl | (revert h; decide) | (cases h; done)))
     | ((with_reducible show False); omega)
     | ((first | (with_reducible first | apply zW | apply zV | apply zU | apply zS | apply zX | show VX _ _ _ _ _ _ _ | show vstep _ _ _ _ _ | show vskip _ _ _ | show withV _ _) | ((with_reducible show endA _ _ _ _ _ _ _); simp -implicitDefEqProofs only [endA]) | (with_reducible first | refine zB default (by first | omega | (simp only [LN, hp]; omega)) (by first | omega | (simp only [LN, hp]; omega)) ?_ | refine zC default (by first | omega | (simp only [LN, hp]; omega)) ?_ | refine And.intro (by first | decide | omega | assumption | (simp only [LN, hp]; omega)) ?_) | ((with_reducible show pickE _ _ _); first | refine zA _ ⟨by omega, by rfl⟩ ?_ | refine zA _ (by rfl) ?_) | fail); try simp -dsimp -implicitDefEqProofs (maxSteps := 1000000) (disch := first | omega | (simp only [LN, hp]; omega)) only [go_sem, hp])
     | fail)
    all_goals first | omega | (simp [hp]; done)
 ·have hn : ¬ a = b := fun e => hab (by rw [e])
  repeat' (first
   | (with_reducible first | apply zY | apply zT | apply zM | apply zN | apply zO | refine chk_ok (by kernel_rfl) ?_)
   | ((with_reducible first | apply zP | apply zQ | apply zR | apply zL) <;> intro h <;> try (exfalso; first | omega | exact h rfl | (revert h; decide) | (cases h; done)))
   | ((with_reducible show False); omega)
   | ((first | (with_reducible first | apply zW | apply zV | apply zU | apply zS | apply zX | show VX _ _ _ _ _ _ _ | show vstep _ _ _ _ _ | show vskip _ _ _ | show withV _ _) | ((with_reducible show endA _ _ _ _ _ _ _); simp -implicitDefEqProofs only [endA]) | (with_reducible first | refine zB default (by first | omega | (simp only [LN]; omega)) (by first | omega | (simp only [LN]; omega)) ?_ | refine zC default (by first | omega | (simp only [LN]; omega)) ?_ | refine And.intro (by first | decide | omega | assumption | (simp only [LN]; omega)) ?_) | ((with_reducible show pickE _ _ _); first | refine zA _ ⟨by omega, by rfl⟩ ?_ | refine zA _ (by rfl) ?_) | fail); try simp -dsimp -implicitDefEqProofs (maxSteps := 1000000) (disch := first | omega | (simp only [LN]; omega)) only [go_sem])
   | fail)
  all_goals first | omega | (simp [hn]; done)
end Go.Proofs.YtegekpjkbedngaaGreat
