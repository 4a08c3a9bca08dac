/- Contracts of functions of this program, and the plain facts that they rest on. No conditions. -/
import Derived.Test.YtegekpjkbedngaaGreatJDvFQ
import Derived.Test.YtegekpjkbedngaaGreatJLfBQ
set_option linter.unusedSectionVars false
set_option linter.unusedSimpArgs false
set_option linter.unusedVariables false
namespace Go.Proofs.YtegekpjkbedngaaGreat
set_option maxHeartbeats 4000000
set_option maxRecDepth 100000
open Go Go.Ab
attribute [local irreducible] callK callF loopQ vstep vskip pickE hideP
structure Srt (l : List Int) : Prop where
 len : l.length = 28
 le : ∀ i j, i ≤ j → j < 28 → l.getD i default ≤ l.getD j default
attribute [local go_sem] eU
theorem sNaN (x : Int) : PCalls Tryz.prog 81 [.v (.int .u64 x)] (.v (.bool false)) := by
 refine yB (E := E) (fn := Tryz.f81) 6 [.tmp 2] rfl rfl rfl rfl (by decide) rfl ?_
 repeat' (first
  | (with_reducible first | apply zY | apply zT | apply zM | apply zN | apply zO | refine chk_ok (by kernel_rfl) ?_)
  | ((with_reducible first | apply zP | apply zQ | apply zR | apply zL) <;> intro h <;> try (exfalso; first | omega | exact h rfl | (revert h; decide) | (cases h; done)))
  | ((with_reducible show False); omega)
  | ((first | (with_reducible first | apply zW | apply zV | apply zU | apply zS | apply zX | show VX _ _ _ _ _ _ _ | show vstep _ _ _ _ _ | show vskip _ _ _ | show withV _ _) | ((with_reducible show endA _ _ _ _ _ _ _); simp -implicitDefEqProofs only [endA]) | (with_reducible first | refine zB default (by first | omega | (simp only [LN]; omega)) (by first | omega | (simp only [LN]; omega)) ?_ | refine zC default (by first | omega | (simp only [LN]; omega)) ?_ | refine And.intro (by first | decide | omega | assumption | (simp only [LN]; omega)) ?_) | ((with_reducible show pickE _ _ _); first | refine zA _ ⟨by omega, by rfl⟩ ?_ | refine zA _ (by rfl) ?_) | fail); try simp -dsimp -implicitDefEqProofs (maxSteps := 1000000) (disch := first | omega | (simp only [LN]; omega)) only [go_sem])
  | fail)
 all_goals first | (simp; done)
theorem sLess (x y : Int) : PCalls Tryz.prog 68 [.v (.int .u64 x), .v (.int .u64 y)] (.v (.bool (decide (x < y)))) := by
 refine yB (E := E) (fn := Tryz.f68) 17 [.tmp 4] rfl rfl rfl rfl (by decide) rfl ?_
 repeat' (first
  | (with_reducible first | apply zY | apply zT | apply zM | apply zN | apply zO | refine chk_ok (by kernel_rfl) ?_)
  | ((with_reducible first | apply zP | apply zQ | apply zR | apply zL) <;> intro h <;> try (exfalso; first | omega | exact h rfl | (revert h; decide) | (cases h; done)))
  | ((with_reducible show False); omega)
  | ((first | (with_reducible first | apply zW | apply zV | apply zU | apply zS | apply zX | show VX _ _ _ _ _ _ _ | show vstep _ _ _ _ _ | show vskip _ _ _ | show withV _ _) | ((with_reducible show endA _ _ _ _ _ _ _); simp -implicitDefEqProofs only [endA]) | (with_reducible first | refine zB default (by first | omega | (simp only [LN]; omega)) (by first | omega | (simp only [LN]; omega)) ?_ | refine zC default (by first | omega | (simp only [LN]; omega)) ?_ | refine And.intro (by first | decide | omega | assumption | (simp only [LN]; omega)) ?_) | ((with_reducible apply zD); (first | exact sNaN x | exact sNaN y | fail)) | ((with_reducible apply zE); (first | exact sNaN x | exact sNaN y | fail); rfl) | ((with_reducible apply zF); (first | exact sNaN x | exact sNaN y | fail)) | ((with_reducible show pickE _ _ _); first | refine zA _ ⟨by omega, by rfl⟩ ?_ | refine zA _ (by rfl) ?_) | fail); try simp -dsimp -implicitDefEqProofs (maxSteps := 1000000) (disch := first | omega | (simp only [LN]; omega)) only [go_sem])
  | fail)
 all_goals first | (simp; done)
theorem sOrd2 (l : List Int) (hl : Srt l) (i j : Nat) (hij : i ≤ j) (hj : j < 28) : ACalls Tryz.prog 83 [.p (.view 1 (l.map eU)), .p (.v (.int .i64 i)), .p (.v (.int .i64 j)), .loc 0 0] [.var [.p (.v (.int .i64 0))]] (.p (.tup [.v (.int .i64 i), .v (.int .i64 j)])) [.var [.p (.v (.int .i64 0))]] := by
 refine yA (E := E) (fn := Tryz.f83) 28 [.tmp 8, .tmp 9] rfl rfl rfl rfl (by decide) rfl rfl ?_
 have h1 := hl.le i j hij hj
 have h2 := hl.len
 have k1 := sLess (l.getD j default) (l.getD i default)
 rw [decide_eq_false (by omega)] at k1
 repeat' (first
  | (with_reducible first | apply zY | apply zT | apply zM | apply zN | apply zO | refine chk_ok (by kernel_rfl) ?_)
  | ((with_reducible first | apply zP | apply zQ | apply zR | apply zL) <;> intro h <;> try (exfalso; first | omega | exact h rfl | (revert h; decide) | (cases h; done)))
  | ((with_reducible show False); omega)
  | ((first | (with_reducible first | apply zW | apply zV | apply zU | apply zS | apply zX | show VX _ _ _ _ _ _ _ | show vstep _ _ _ _ _ | show vskip _ _ _ | show withV _ _) | ((with_reducible show endA _ _ _ _ _ _ _); simp -implicitDefEqProofs only [endA]) | (with_reducible first | refine zB default (by first | omega | (simp only [LN, h2]; omega)) (by first | omega | (simp only [LN, h2]; omega)) ?_ | refine zC default (by first | omega | (simp only [LN, h2]; omega)) ?_ | refine And.intro (by first | decide | omega | assumption | (simp only [LN, h2]; omega)) ?_) | ((with_reducible apply zD); (exact k1)) | ((with_reducible apply zE); (exact k1); rfl) | ((with_reducible apply zF); (exact k1)) | ((with_reducible show pickE _ _ _); first | refine zA _ ⟨by omega, by rfl⟩ ?_ | refine zA _ (by rfl) ?_) | fail); try simp -dsimp -implicitDefEqProofs (maxSteps := 1000000) (disch := first | omega | (simp only [LN, h2]; omega)) only [go_sem, h2])
  | fail)
 all_goals first | omega
theorem sMed (l : List Int) (hl : Srt l) : ACalls Tryz.prog 80 [.p (.view 1 (l.map eU)), .p (.v (.int .i64 7)), .p (.v (.int .i64 14)), .p (.v (.int .i64 21)), .loc 0 0] [.var [.p (.v (.int .i64 0))]] (.p (.v (.int .i64 14))) [.var [.p (.v (.int .i64 0))]] := by
 refine yA (E := E) (fn := Tryz.f80) 36 [.tmp 10] rfl rfl rfl rfl (by decide) rfl rfl ?_
 have k1 := sOrd2 l hl 7 14 (by omega) (by omega)
 have k2 := sOrd2 l hl 14 21 (by omega) (by omega)
 repeat' (first
  | (with_reducible first | apply zY | apply zT | apply zM | apply zN | apply zO | refine chk_ok (by kernel_rfl) ?_)
  | ((with_reducible first | apply zP | apply zQ | apply zR | apply zL) <;> intro h <;> try (exfalso; first | omega | exact h rfl | (revert h; decide) | (cases h; done)))
  | ((with_reducible show False); omega)
  | ((first | (with_reducible first | apply zW | apply zV | apply zU | apply zS | apply zX | show VX _ _ _ _ _ _ _ | show vstep _ _ _ _ _ | show vskip _ _ _ | show withV _ _) | ((with_reducible show endA _ _ _ _ _ _ _); simp -implicitDefEqProofs only [endA]) | (with_reducible first | refine zB default (by first | omega | (simp only [LN]; omega)) (by first | omega | (simp only [LN]; omega)) ?_ | refine zC default (by first | omega | (simp only [LN]; omega)) ?_ | refine And.intro (by first | decide | omega | assumption | (simp only [LN]; omega)) ?_) | (with_reducible first | apply zG | apply zH | apply zI | apply hidePI_own) | ((with_reducible apply zJ); (first | exact k1 | exact k2 | fail)) | ((with_reducible show pickE _ _ _); first | refine zA _ ⟨by omega, by rfl⟩ ?_ | refine zA _ (by rfl) ?_) | fail); try simp -dsimp -implicitDefEqProofs (maxSteps := 1000000) (disch := first | omega | (simp only [LN]; omega)) only [go_sem])
  | fail)
 all_goals first | omega
theorem sPiv (l : List Int) (hl : Srt l) : PCalls Tryz.prog 65 [.view 1 (l.map eU), .v (.int .i64 0), .v (.int .i64 28)] (.tup [.v (.int .i64 14), .v (.int .i64 1)]) := by
 refine yD ⟨_, rfl, rfl, by decide⟩ fun hf => ?_
 simp only [go_sem, big] at hf
 refine yB (E := E) (fn := Tryz.f65) 57 [.tmp 6, .tmp 7] rfl rfl rfl rfl (by decide) rfl ?_
 have k1 := sMed l hl
 repeat' (first
  | (with_reducible first | apply zY | apply zT | apply zM | apply zN | apply zO | refine chk_ok (by kernel_rfl) ?_)
  | ((with_reducible first | apply zP | apply zQ | apply zR | apply zL) <;> intro h <;> try (exfalso; first | omega | exact h rfl | (revert h; decide) | (cases h; done)))
  | ((with_reducible show False); omega)
  | ((first | (with_reducible first | apply zW | apply zV | apply zU | apply zS | apply zX | show VX _ _ _ _ _ _ _ | show vstep _ _ _ _ _ | show vskip _ _ _ | show withV _ _) | ((with_reducible show endA _ _ _ _ _ _ _); simp -implicitDefEqProofs only [endA]) | (with_reducible first | refine zB default (by first | omega | (simp only [LN]; omega)) (by first | omega | (simp only [LN]; omega)) ?_ | refine zC default (by first | omega | (simp only [LN]; omega)) ?_ | refine And.intro (by first | decide | omega | assumption | (simp only [LN]; omega)) ?_) | (with_reducible first | apply zG | apply zH | apply zI | apply hidePI_own) | ((with_reducible apply zJ); (first | exact k1 | fail)) | ((with_reducible show pickE _ _ _); first | refine zA _ ⟨by omega, by rfl⟩ ?_ | refine zA _ (by rfl) ?_) | fail); try simp -dsimp -implicitDefEqProofs (maxSteps := 1000000) (disch := first | omega | (simp only [LN]; omega)) only [go_sem])
  | fail)
 all_goals first | omega
theorem sPart (l : List Int) (hl : Srt l) : PCalls Tryz.prog 67 [.view 1 (l.map eU), .v (.int .i64 0), .v (.int .i64 28)] (.v (.bool true)) := by
 refine yD ⟨_, rfl, rfl, by decide⟩ fun hf => ?_
 simp only [go_sem, big] at hf
 refine yB (E := E) (fn := Tryz.f67) 133 [.tmp 6] rfl rfl rfl rfl (by decide) rfl ?_
 have h2 := hl.len
 repeat' (first
  | (with_reducible first | apply zY | apply zT | apply zM | apply zN | apply zO | refine chk_ok (by kernel_rfl) ?_)
  | ((with_reducible first | apply zP | apply zQ | apply zR | apply zL) <;> intro h <;> try (exfalso; first | omega | exact h rfl | (revert h; decide) | (cases h; done)))
  | ((with_reducible show False); omega)
  | ((first | (with_reducible first | apply zW | apply zV | apply zU | apply zS | apply zX | show VX _ _ _ _ _ _ _ | show vstep _ _ _ _ _ | show vskip _ _ _ | show withV _ _) | ((with_reducible show endA _ _ _ _ _ _ _); simp -implicitDefEqProofs only [endA]) | (with_reducible first | refine zB default (by first | omega | (simp only [LN]; omega)) (by first | omega | (simp only [LN]; omega)) ?_ | refine zC default (by first | omega | (simp only [LN]; omega)) ?_ | refine And.intro (by first | decide | omega | assumption | (simp only [LN]; omega)) ?_) | ((with_reducible show pickE _ _ _); first | refine zA _ ⟨by omega, by rfl⟩ ?_ | refine zA _ (by rfl) ?_) | fail); try simp -dsimp -implicitDefEqProofs (maxSteps := 1000000) (disch := first | omega | (simp only [LN]; omega)) only [go_sem])
  | fail)
 refine r_loopA (α := Nat) [0, 1, 2] (fun n b => [(7, .p (.v (.int .i64 1))), (8, .p (.v (.int .i64 0)))]) (fun n b => []) (fun n => []) (fun n => n = 0) (fun n => 5 - n) (0) ?h0_1 ?hs0_1 ?I_1 ?hI_1 ?round_1
 case hI_1 => intro x; (simp -dsimp -implicitDefEqProofs (maxSteps := 1000000) (disch := first | omega | (simp only [LN]; omega)) only [go_sem]) <;> exact rfl
 case hs0_1 => refine wk_auto ?_; (simp -dsimp -implicitDefEqProofs (maxSteps := 1000000) (disch := first | omega | (simp only [LN]; omega)) only [go_sem]) <;> (try omega)
 case h0_1 => rfl
 case round_1 =>
  intro n hn
  repeat' (first
   | (with_reducible first | apply zY | apply zT | apply zM | apply zN | apply zO | refine chk_ok (by kernel_rfl) ?_)
   | ((with_reducible first | apply zP | apply zQ | apply zR | apply zL) <;> intro h <;> try (exfalso; first | omega | exact h rfl | (revert h; decide) | (cases h; done)))
   | ((with_reducible show False); omega)
   | ((first | (with_reducible first | apply zW | apply zV | apply zU | apply zS | apply zX | show VX _ _ _ _ _ _ _ | show vstep _ _ _ _ _ | show vskip _ _ _ | show withV _ _) | ((with_reducible show endA _ _ _ _ _ _ _); simp -implicitDefEqProofs only [endA]) | (with_reducible first | refine zB default (by first | omega | (simp only [LN]; omega)) (by first | omega | (simp only [LN]; omega)) ?_ | refine zC default (by first | omega | (simp only [LN]; omega)) ?_ | refine And.intro (by first | decide | omega | assumption | (simp only [LN]; omega)) ?_) | ((with_reducible show pickE _ _ _); first | refine zA _ ⟨by omega, by rfl⟩ ?_ | refine zA _ (by rfl) ?_) | fail); try simp -dsimp -implicitDefEqProofs (maxSteps := 1000000) (disch := first | omega | (simp only [LN]; omega)) only [go_sem])
   | fail)
  all_goals try omega
  refine r_loopA (α := Nat) [0, 1, 2, 8] (fun i b => [(7, aI i)]) (fun i b => []) (fun i => []) (fun i => 1 ≤ i ∧ i ≤ 28) (fun i => 28 - i) (1) ?h0_2 ?hs0_2 ?I_2 ?hI_2 ?round_2
  case hI_2 => intro x; (simp -dsimp -implicitDefEqProofs (maxSteps := 1000000) (disch := first | omega | (simp only [LN]; omega)) only [go_sem]) <;> exact rfl
  case hs0_2 => refine wk_auto ?_; (simp -dsimp -implicitDefEqProofs (maxSteps := 1000000) (disch := first | omega | (simp only [LN]; omega)) only [go_sem]) <;> (try omega)
  case h0_2 => omega
  case round_2 =>
   rintro i ⟨hi1, hi⟩
   obtain ⟨i, rfl⟩ : ∃ k, i = k + 1 := ⟨i - 1, by omega⟩
   have w3 : IntKind.i64.wrap (((i + 1 : Nat) : Int) + 1) = ((i + 2 : Nat) : Int) := by rw [IntKind.wrap_i64]; push_cast; omega
   have w3b : IntKind.i64.wrap ((i : Int) + 1 + 1) = ((i + 2 : Nat) : Int) := by rw [IntKind.wrap_i64]; push_cast; omega
   have w4 : IntKind.i64.wrap (((i + 1 : Nat) : Int) - 1) = (i : Int) := by rw [IntKind.wrap_i64]; omega
   have w4b : IntKind.i64.wrap ((i : Int) + 1 - 1) = (i : Int) := by rw [IntKind.wrap_i64]; omega
   by_cases hi2 : i + 1 < 28
   ·have h1 := hl.le i (i + 1) (by omega) hi2
    have k1 := sLess (l.getD (i + 1) default) (l.getD i default)
    rw [decide_eq_false (by omega)] at k1
    repeat' (first
     | (with_reducible first | apply zY | apply zT | apply zM | apply zN | apply zO | refine chk_ok (by kernel_rfl) ?_)
     | ((with_reducible first | apply zP | apply zQ | apply zR | apply zL) <;> intro h <;> try (exfalso; first | omega | exact h rfl | (revert h; decide) | (cases h; done)))
     | ((with_reducible show False); omega)
     | ((first | (with_reducible first | apply zW | apply zV | apply zU | apply zS | apply zX | show VX _ _ _ _ _ _ _ | show vstep _ _ _ _ _ | show vskip _ _ _ | show withV _ _) | ((with_reducible show endA _ _ _ _ _ _ _); simp -implicitDefEqProofs only [endA]) | (with_reducible first | refine zB default (by first | omega | (simp only [LN, h2, w4, w4b]; omega)) (by first | omega | (simp only [LN, h2, w4, w4b]; omega)) ?_ | refine zC default (by first | omega | (simp only [LN, h2, w4, w4b]; omega)) ?_ | refine And.intro (by first | decide | omega | assumption | (simp only [LN, h2, w4, w4b]; omega)) ?_) | ((with_reducible apply zD); (exact k1)) | ((with_reducible apply zE); (exact k1); rfl) | ((with_reducible apply zF); (exact k1)) | ((with_reducible show pickE _ _ _); first | refine zA _ ⟨by omega, by rfl⟩ ?_ | refine zA _ (by rfl) ?_) | fail); try simp -dsimp -implicitDefEqProofs (maxSteps := 1000000) (disch := first | omega | (simp only [LN, h2, w4, w4b]; omega)) only [go_sem, h2, w4, w4b])
     | fail)
    all_goals first | omega | ((refine zZ (i + 2) ?_ ?_ ?_; (omega); (show _ < _; omega); (simp -dsimp -implicitDefEqProofs (maxSteps := 1000000) (disch := first | omega | (simp only [LN, w3, w3b]; omega)) only [go_sem, w3, w3b]; try trivial)))
   ·obtain rfl : i = 27 := by omega
    repeat' (first
     | (with_reducible first | apply zY | apply zT | apply zM | apply zN | apply zO | refine chk_ok (by kernel_rfl) ?_)
     | ((with_reducible first | apply zP | apply zQ | apply zR | apply zL) <;> intro h <;> try (exfalso; first | omega | exact h rfl | (revert h; decide) | (cases h; done)))
     | ((with_reducible show False); omega)
     | ((first | (with_reducible first | apply zW | apply zV | apply zU | apply zS | apply zX | show VX _ _ _ _ _ _ _ | show vstep _ _ _ _ _ | show vskip _ _ _ | show withV _ _) | ((with_reducible show endA _ _ _ _ _ _ _); simp -implicitDefEqProofs only [endA]) | (with_reducible first | refine zB default (by first | omega | (simp only [LN]; omega)) (by first | omega | (simp only [LN]; omega)) ?_ | refine zC default (by first | omega | (simp only [LN]; omega)) ?_ | refine And.intro (by first | decide | omega | assumption | (simp only [LN]; omega)) ?_) | ((with_reducible show pickE _ _ _); first | refine zA _ ⟨by omega, by rfl⟩ ?_ | refine zA _ (by rfl) ?_) | fail); try simp -dsimp -implicitDefEqProofs (maxSteps := 1000000) (disch := first | omega | (simp only [LN]; omega)) only [go_sem])
     | fail)
    all_goals first | omega
theorem bLen28  : PCalls Tryz.prog 72 [.v (.int .u64 28)] (.v (.int .i64 5)) := by
 refine yB (E := E) (fn := Tryz.f72) 25 [.tmp 2] rfl rfl rfl rfl (by decide) rfl ?_
 repeat' (first
  | (with_reducible first | apply zY | apply zT | apply zM | apply zN | apply zO | refine chk_ok (by kernel_rfl) ?_)
  | ((with_reducible first | apply zP | apply zQ | apply zR | apply zL) <;> intro h <;> try (exfalso; first | omega | exact h rfl | (revert h; decide) | (cases h; done)))
  | ((with_reducible show False); omega)
  | ((first | (with_reducible first | apply zW | apply zV | apply zU | apply zS | apply zX | show VX _ _ _ _ _ _ _ | show vstep _ _ _ _ _ | show vskip _ _ _ | show withV _ _) | ((with_reducible show endA _ _ _ _ _ _ _); simp -implicitDefEqProofs only [endA]) | (with_reducible first | refine zB default (by first | omega | (simp only [LN]; omega)) (by first | omega | (simp only [LN]; omega)) ?_ | refine zC default (by first | omega | (simp only [LN]; omega)) ?_ | refine And.intro (by first | decide | omega | assumption | (simp only [LN]; omega)) ?_) | ((with_reducible show pickE _ _ _); first | refine zA _ ⟨by omega, by rfl⟩ ?_ | refine zA _ (by rfl) ?_) | fail); try simp -dsimp -implicitDefEqProofs (maxSteps := 1000000) (disch := first | omega | (simp only [LN]; omega)) only [go_sem])
  | fail)
 all_goals first | rfl
theorem bLenI  : PCalls Tryz.prog 52 [.v (.int .u64 28)] (.v (.int .i64 5)) := by
 refine yB (E := E) (fn := Tryz.f52) 8 [.tmp 2] rfl rfl rfl rfl (by decide) rfl ?_
 repeat' (first
  | (with_reducible first | apply zY | apply zT | apply zM | apply zN | apply zO | refine chk_ok (by kernel_rfl) ?_)
  | ((with_reducible first | apply zP | apply zQ | apply zR | apply zL) <;> intro h <;> try (exfalso; first | omega | exact h rfl | (revert h; decide) | (cases h; done)))
  | ((with_reducible show False); omega)
  | ((first | (with_reducible first | apply zW | apply zV | apply zU | apply zS | apply zX | show VX _ _ _ _ _ _ _ | show vstep _ _ _ _ _ | show vskip _ _ _ | show withV _ _) | ((with_reducible show endA _ _ _ _ _ _ _); simp -implicitDefEqProofs only [endA]) | (with_reducible first | refine zB default (by first | omega | (simp only [LN]; omega)) (by first | omega | (simp only [LN]; omega)) ?_ | refine zC default (by first | omega | (simp only [LN]; omega)) ?_ | refine And.intro (by first | decide | omega | assumption | (simp only [LN]; omega)) ?_) | ((with_reducible apply zD); (exact bLen28)) | ((with_reducible apply zE); (exact bLen28); rfl) | ((with_reducible apply zF); (exact bLen28)) | ((with_reducible show pickE _ _ _); first | refine zA _ ⟨by omega, by rfl⟩ ?_ | refine zA _ (by rfl) ?_) | fail); try simp -dsimp -implicitDefEqProofs (maxSteps := 1000000) (disch := first | omega | (simp only [LN]; omega)) only [go_sem])
  | fail)
 all_goals first | rfl
theorem sPdq (l : List Int) (hl : Srt l) : PCalls Tryz.prog 51 [.view 1 (l.map eU), .v (.int .i64 0), .v (.int .i64 28), .v (.int .i64 5)] (.tup []) := by
 refine yD ⟨_, rfl, rfl, by decide⟩ fun hf => ?_
 simp only [go_sem, big] at hf
 refine yB (E := E) (fn := Tryz.f51) 134 [] rfl rfl rfl rfl (by decide) rfl ?_
 have h2 := hl.len
 have k1 := sPiv l hl
 have k2 := sPart l hl
 repeat' (first
  | (with_reducible first | apply zY | apply zT | apply zM | apply zN | apply zO | refine chk_ok (by kernel_rfl) ?_)
  | ((with_reducible first | apply zP | apply zQ | apply zR | apply zL) <;> intro h <;> try (exfalso; first | omega | exact h rfl | (revert h; decide) | (cases h; done)))
  | ((with_reducible show False); omega)
  | ((first | (with_reducible first | apply zW | apply zV | apply zU | apply zS | apply zX | show VX _ _ _ _ _ _ _ | show vstep _ _ _ _ _ | show vskip _ _ _ | show withV _ _) | ((with_reducible show endA _ _ _ _ _ _ _); simp -implicitDefEqProofs only [endA]) | (with_reducible first | refine zB default (by first | omega | (simp only [LN]; omega)) (by first | omega | (simp only [LN]; omega)) ?_ | refine zC default (by first | omega | (simp only [LN]; omega)) ?_ | refine And.intro (by first | decide | omega | assumption | (simp only [LN]; omega)) ?_) | ((with_reducible show pickE _ _ _); first | refine zA _ ⟨by omega, by rfl⟩ ?_ | refine zA _ (by rfl) ?_) | fail); try simp -dsimp -implicitDefEqProofs (maxSteps := 1000000) (disch := first | omega | (simp only [LN]; omega)) only [go_sem])
  | fail)
 refine r_loopA (α := Nat) [0] (fun n b => [(1, .p (.v (.int .i64 0))), (2, .p (.v (.int .i64 28))), (3, .p (.v (.int .i64 5))), (8, .p (.v (.bool true))), (9, .p (.v (.bool true)))]) (fun n b => []) (fun n => []) (fun n => n = 0) (fun n => 5 - n) (0) ?h0_3 ?hs0_3 ?I_3 ?hI_3 ?round_3
 case hI_3 => intro x; (simp -dsimp -implicitDefEqProofs (maxSteps := 1000000) (disch := first | omega | (simp only [LN]; omega)) only [go_sem]) <;> exact rfl
 case hs0_3 => refine wk_auto ?_; (simp -dsimp -implicitDefEqProofs (maxSteps := 1000000) (disch := first | omega | (simp only [LN]; omega)) only [go_sem]) <;> (try omega)
 case h0_3 => rfl
 case round_3 =>
  intro n hn
  repeat' (first
   | (with_reducible first | apply zY | apply zT | apply zM | apply zN | apply zO | refine chk_ok (by kernel_rfl) ?_)
   | ((with_reducible first | apply zP | apply zQ | apply zR | apply zL) <;> intro h <;> try (exfalso; first | omega | exact h rfl | (revert h; decide) | (cases h; done)))
   | ((with_reducible show False); omega)
   | ((first | (with_reducible first | apply zW | apply zV | apply zU | apply zS | apply zX | show VX _ _ _ _ _ _ _ | show vstep _ _ _ _ _ | show vskip _ _ _ | show withV _ _) | ((with_reducible show endA _ _ _ _ _ _ _); simp -implicitDefEqProofs only [endA]) | (with_reducible first | refine zB default (by first | omega | (simp only [LN]; omega)) (by first | omega | (simp only [LN]; omega)) ?_ | refine zC default (by first | omega | (simp only [LN]; omega)) ?_ | refine And.intro (by first | decide | omega | assumption | (simp only [LN]; omega)) ?_) | ((with_reducible apply zD); (first | exact k1 | exact k2 | fail)) | ((with_reducible apply zE); (first | exact k1 | exact k2 | fail); rfl) | ((with_reducible apply zF); (first | exact k1 | exact k2 | fail)) | ((with_reducible show pickE _ _ _); first | refine zA _ ⟨by omega, by rfl⟩ ?_ | refine zA _ (by rfl) ?_) | fail); try simp -dsimp -implicitDefEqProofs (maxSteps := 1000000) (disch := first | omega | (simp only [LN]; omega)) only [go_sem])
   | fail)
  all_goals first | omega
theorem sSort (l : List Int) (hl : Srt l) : PCalls Tryz.prog 26 [.view 1 (l.map eU)] (.tup []) := by
 refine yD ⟨_, rfl, rfl, by decide⟩ fun hf => ?_
 simp only [go_sem, big] at hf
 refine yB (E := E) (fn := Tryz.f26) 11 [] rfl rfl rfl rfl (by decide) rfl ?_
 have h2 := hl.len
 have k1 := sPdq l hl
 repeat' (first
  | (with_reducible first | apply zY | apply zT | apply zM | apply zN | apply zO | refine chk_ok (by kernel_rfl) ?_)
  | ((with_reducible first | apply zP | apply zQ | apply zR | apply zL) <;> intro h <;> try (exfalso; first | omega | exact h rfl | (revert h; decide) | (cases h; done)))
  | ((with_reducible show False); omega)
  | ((first | (with_reducible first | apply zW | apply zV | apply zU | apply zS | apply zX | show VX _ _ _ _ _ _ _ | show vstep _ _ _ _ _ | show vskip _ _ _ | show withV _ _) | ((with_reducible show endA _ _ _ _ _ _ _); simp -implicitDefEqProofs only [endA]) | (with_reducible first | refine zB default (by first | omega | (simp only [LN, h2]; omega)) (by first | omega | (simp only [LN, h2]; omega)) ?_ | refine zC default (by first | omega | (simp only [LN, h2]; omega)) ?_ | refine And.intro (by first | decide | omega | assumption | (simp only [LN, h2]; omega)) ?_) | ((with_reducible apply zD); (first | exact k1 | exact bLenI | fail)) | ((with_reducible apply zE); (first | exact k1 | exact bLenI | fail); rfl) | ((with_reducible apply zF); (first | exact k1 | exact bLenI | fail)) | ((with_reducible show pickE _ _ _); first | refine zA _ ⟨by omega, by rfl⟩ ?_ | refine zA _ (by rfl) ?_) | fail); try simp -dsimp -implicitDefEqProofs (maxSteps := 1000000) (disch := first | omega | (simp only [LN, h2]; omega)) only [go_sem, h2])
  | fail)
 all_goals first | omega
end Go.Proofs.YtegekpjkbedngaaGreat
namespace Go.Proofs.YtegekpjkbedngaaGreat
set_option maxHeartbeats 4000000
set_option maxRecDepth 100000
open Go Go.Ab
attribute [local irreducible] callK callF loopQ vstep vskip pickE hideP
def cpN (l : List Int) : Nat → List Int
 | 0 => []
 | j + 1 => if 0 < j ∧ l.getD j default = l.getD (j - 1) default then cpN l j else cpN l j ++ [l.getD j default]
theorem cpN_len (l : List Int) : ∀ j, (cpN l j).length ≤ j
 | 0 => Nat.le_refl 0
 | j + 1 => by
  have := cpN_len l j
  rw [cpN]; split
  ·omega
  ·rw [List.length_append]; simp only [List.length_cons, List.length_nil]; omega
theorem cpN_e {l : List Int} {j : Nat} (h0 : 0 < j) (h : l.getD j default = l.getD (j - 1) default) : cpN l (j + 1) = cpN l j := by rw [cpN, if_pos ⟨h0, h⟩]
theorem cpN_n {l : List Int} {j : Nat} (h : ¬ l.getD j default = l.getD (j - 1) default) : cpN l (j + 1) = cpN l j ++ [l.getD j default] := by rw [cpN, if_neg (fun e => h e.2)]
theorem cpN_mem (l : List Int) : ∀ j, j ≤ l.length → ∀ x, x ∈ l.take j → x ∈ cpN l j
 | 0, _, x, hx => by simp at hx
 | j + 1, hj, x, hx => by
  rw [yE default (show j < l.length by omega), List.mem_append, List.mem_singleton] at hx
  have ih := cpN_mem l j (by omega)
  rw [cpN]
  split
  ·rename_i hc
   rcases hx with hx | hx
   ·exact ih x hx
   ·refine ih x ?_
    rw [hx, hc.2]
    have : j - 1 < (l.take j).length := by rw [List.length_take]; omega
    have e : (l.take j)[j - 1] = l.getD (j - 1) default := by rw [List.getElem_take, List.getD_eq_getElem?_getD, List.getElem?_eq_getElem (show j - 1 < l.length by omega)]; rfl
    rw [← e]; exact List.getElem_mem this
  ·rw [List.mem_append, List.mem_singleton]
   rcases hx with hx | hx
   ·exact .inl (ih x hx)
   ·exact .inr hx
theorem cpN_sub (l : List Int) : ∀ j, j ≤ l.length → ∀ x, x ∈ cpN l j → x ∈ l
 | 0, _, x, hx => by simp [cpN] at hx
 | j + 1, hj, x, hx => by
  have ih := cpN_sub l j (by omega)
  rw [cpN] at hx
  split at hx
  ·exact ih x hx
  ·rw [List.mem_append, List.mem_singleton] at hx
   rcases hx with hx | hx
   ·exact ih x hx
   ·rw [hx, List.getD_eq_getElem?_getD, List.getElem?_eq_getElem (show j < l.length by omega)]; exact List.getElem_mem _
attribute [local go_sem] eU
def aC (l : List Int) (m : Nat) : List Int := cpN l m ++ l.drop (cpN l m).length
theorem aC_len (l : List Int) {m : Nat} (h : m ≤ l.length) : (aC l m).length = l.length := by
 have := cpN_len l m
 unfold aC; rw [List.length_append, List.length_drop]; omega
theorem aC_get (l : List Int) (m i : Nat) (h : (cpN l m).length ≤ i) : (aC l m).getD i default = l.getD i default := by
 unfold aC
 rw [List.getD_eq_getElem?_getD, List.getD_eq_getElem?_getD, List.getElem?_append_right h, List.getElem?_drop]; congr 2; omega
theorem aC_e {l : List Int} {m : Nat} (h : cpN l (m + 1) = cpN l m) : aC l (m + 1) = aC l m := by unfold aC; rw [h]
theorem aC_set {l : List Int} {m : Nat} {x : Int} (h : cpN l (m + 1) = cpN l m ++ [x]) (hl : (cpN l m).length < l.length) : ((aC l m).map eU).set (cpN l m).length (.v (.int .u64 x)) = (aC l (m + 1)).map eU := by
 rw [show PV.v (.int .u64 x) = eU x from rfl, ← List.map_set]
 congr 1
 unfold aC
 rw [h, List.set_append_right _ _ (Nat.le_refl _), Nat.sub_self, List.drop_eq_getElem_cons hl, List.set_cons_zero, List.append_assoc, List.length_append, List.length_singleton]
 rfl
theorem aC_0 {l : List Int} {k : Nat} (h : cpN l k = l.take k) : aC l k = l := by
 unfold aC
 rw [h, List.length_take]
 rcases Nat.le_total k l.length with h' | h'
 ·rw [Nat.min_eq_left h', List.take_append_drop]
 ·rw [Nat.min_eq_right h', List.drop_length, List.append_nil, List.take_of_length_le h']
theorem aC_clr (l : List Int) : (aC l 28).take (cpN l 28).length = cpN l 28 := by unfold aC; rw [List.take_left']; rfl
theorem sCompact (l : List Int) (hl : l.length = 28) (hd : (cpN l 28).length < 28) : ACalls Tryz.prog 27 [.sl 0 1 0 28] [.arr 1 (l.map eU)] (.sl 0 1 0 (cpN l 28).length) [.arr 1 ((cpN l 28 ++ List.replicate (28 - (cpN l 28).length) 0).map eU)] := by
 refine yA (E := E) (fn := Tryz.f27) 61 [.tmp 2] rfl rfl rfl rfl (by decide) rfl rfl ?_
 repeat' (first
  | (with_reducible first | apply zY | apply zT | apply zM | apply zN | apply zO | refine chk_ok (by kernel_rfl) ?_)
  | ((with_reducible first | apply zP | apply zQ | apply zR | apply zL) <;> intro h <;> try (exfalso; first | omega | exact h rfl | (revert h; decide) | (cases h; done)))
  | ((with_reducible show False); omega)
  | ((first | (with_reducible first | apply zW | apply zV | apply zU | apply zS | apply zX | show VX _ _ _ _ _ _ _ | show vstep _ _ _ _ _ | show vskip _ _ _ | show withV _ _) | ((with_reducible show endA _ _ _ _ _ _ _); simp -implicitDefEqProofs only [endA]) | (with_reducible first | refine zB default (by first | omega | (simp only [LN, hl]; omega)) (by first | omega | (simp only [LN, hl]; omega)) ?_ | refine zC default (by first | omega | (simp only [LN, hl]; omega)) ?_ | refine And.intro (by first | decide | omega | assumption | (simp only [LN, hl]; omega)) ?_) | ((with_reducible show pickE _ _ _); first | refine zA _ ⟨by omega, by rfl⟩ ?_ | refine zA _ (by rfl) ?_) | fail); try simp -dsimp -implicitDefEqProofs (maxSteps := 1000000) (disch := first | omega | (simp only [LN, hl]; omega)) only [go_sem, hl])
  | fail)
 all_goals try omega
 refine r_loopA (α := Nat) [0] (fun k b => [(3, aI k)]) (fun k b => []) (fun k => []) (fun k => (1 ≤ k ∧ k ≤ 28) ∧ cpN l k = l.take k) (fun k => 28 - k) (1) ?h0_1 ?hs0_1 ?I_1 ?hI_1 ?round_1
 case hI_1 => intro x; (simp -dsimp -implicitDefEqProofs (maxSteps := 1000000) (disch := first | omega | (simp only [LN]; omega)) only [go_sem]) <;> exact rfl
 case hs0_1 => refine wk_auto ?_; (simp -dsimp -implicitDefEqProofs (maxSteps := 1000000) (disch := first | omega | (simp only [LN]; omega)) only [go_sem]) <;> (try omega)
 case h0_1 => exact ⟨⟨by omega, by omega⟩, by rw [yE default (show 0 < l.length by omega)]; rfl⟩
 case round_1 =>
  rintro k ⟨⟨hk1, hk⟩, hp⟩
  obtain ⟨k, rfl⟩ : ∃ m, k = m + 1 := ⟨k - 1, by omega⟩
  by_cases hk2 : k + 1 < 28
  ·have w3 : IntKind.i64.wrap ((k : Int) + 1 + 1) = ((k + 2 : Nat) : Int) := by rw [IntKind.wrap_i64]; push_cast; omega
   have w4 : IntKind.i64.wrap ((k : Int) + 1 - 1) = (k : Int) := by rw [IntKind.wrap_i64]; omega
   by_cases he : l.getD (k + 1) default = l.getD k default
   ·have hc := cpN_e (l := l) (j := k + 1) (by omega) he
    rw [hp] at hc
    have hlc : (cpN l (k + 2)).length = k + 1 := by rw [hc, List.length_take]; omega
    have hac : aC l (k + 2) = l := by
     have e : cpN l (k + 1 + 1) = cpN l (k + 1) := hc.trans hp.symm
     rw [show k + 2 = k + 1 + 1 from rfl, aC_e e, aC_0 hp]
    have w28 : (28 : Int) - ((k : Int) + 1) = ((27 - k : Nat) : Int) := by omega
    repeat' (first
     | (with_reducible first | apply zY | apply zT | apply zM | apply zN | apply zO | refine chk_ok (by kernel_rfl) ?_)
     | ((with_reducible first | apply zP | apply zQ | apply zR | apply zL) <;> intro h <;> try (exfalso; first | omega | exact h rfl | (revert h; decide) | (cases h; done)))
     | ((with_reducible show False); omega)
     | ((first | (with_reducible first | apply zW | apply zV | apply zU | apply zS | apply zX | show VX _ _ _ _ _ _ _ | show vstep _ _ _ _ _ | show vskip _ _ _ | show withV _ _) | ((with_reducible show endA _ _ _ _ _ _ _); simp -implicitDefEqProofs only [endA]) | (with_reducible first | refine zB default (by first | omega | (simp only [LN, hl, w4, he]; omega)) (by first | omega | (simp only [LN, hl, w4, he]; omega)) ?_ | refine zC default (by first | omega | (simp only [LN, hl, w4, he]; omega)) ?_ | refine And.intro (by first | decide | omega | assumption | (simp only [LN, hl, w4, he]; omega)) ?_) | ((with_reducible show pickE _ _ _); first | refine zA _ ⟨by omega, by rfl⟩ ?_ | refine zA _ (by rfl) ?_) | fail); try simp -dsimp -implicitDefEqProofs (maxSteps := 1000000) (disch := first | omega | (simp only [LN, hl, w4, he]; omega)) only [go_sem, hl, w4, he])
     | fail)
    all_goals try omega
    refine r_loopA (α := Nat) [0, 4] (fun j b => [(3, aI (cpN l (k + 1 + j)).length), (5, aI j)]) (fun j b => [(0, .arr 1 ((aC l (k + 1 + j)).map eU))]) (fun j => []) (fun j => (1 ≤ j ∧ k + 1 + j ≤ 28) ∧ (cpN l (k + 1 + j)).length ≤ k + j) (fun j => 28 - j) (1) ?h0_2 ?hs0_2 ?I_2 ?hI_2 ?round_2
    case hI_2 => intro x; (simp -dsimp -implicitDefEqProofs (maxSteps := 1000000) (disch := first | omega | (simp only [LN]; omega)) only [go_sem]) <;> exact rfl
    case hs0_2 => refine wk_auto ?_; (simp -dsimp -implicitDefEqProofs (maxSteps := 1000000) (disch := first | omega | (simp only [LN, hac, hlc, show k + 1 + 1 = k + 2 from rfl]; omega)) only [go_sem, hac, hlc, show k + 1 + 1 = k + 2 from rfl]) <;> (try omega)
    case h0_2 => exact ⟨⟨by omega, by omega⟩, by show (cpN l (k + 2)).length ≤ _; omega⟩
    case round_2 =>
     rintro j ⟨⟨hj1, hj⟩, hlen⟩
     have hal := aC_len l (m := k + 1 + j) (by omega)
     have w5 : IntKind.i64.wrap ((j : Int) + 1) = ((j + 1 : Nat) : Int) := by rw [IntKind.wrap_i64]; push_cast; omega
     have w6 : IntKind.i64.wrap ((j : Int) - 1) = ((j - 1 : Nat) : Int) := by rw [IntKind.wrap_i64]; omega
     by_cases hj2 : k + 1 + j < 28
     ·have g1 := aC_get l (k + 1 + j) (k + 1 + j) (by omega)
      have g2 := aC_get l (k + 1 + j) (k + 1 + (j - 1)) (by omega)
      have hs := @aC_set l (k + 1 + j)
      have hq := @cpN_n l (k + 1 + j)
      have hq2 := @cpN_e l (k + 1 + j) (by omega)
      have e1 : k + 1 + j - 1 = k + 1 + (j - 1) := by omega
      rw [e1] at hq hq2
      by_cases hee : l.getD (k + 1 + j) default = l.getD (k + 1 + (j - 1)) default
      ·have hq2 := hq2 hee
       have ha := aC_e hq2
       repeat' (first
        | (with_reducible first | apply zY | apply zT | apply zM | apply zN | apply zO | refine chk_ok (by kernel_rfl) ?_)
        | ((with_reducible first | apply zP | apply zQ | apply zR | apply zL) <;> intro h <;> try (exfalso; first | omega | exact h rfl | (revert h; decide) | (cases h; done)))
        | ((with_reducible show False); omega)
        | ((first | (with_reducible first | apply zW | apply zV | apply zU | apply zS | apply zX | show VX _ _ _ _ _ _ _ | show vstep _ _ _ _ _ | show vskip _ _ _ | show withV _ _) | ((with_reducible show endA _ _ _ _ _ _ _); simp -implicitDefEqProofs only [endA]) | (with_reducible first | refine zB default (by first | omega | (simp only [LN, hl, w6, g1, g2, hee, hal]; omega)) (by first | omega | (simp only [LN, hl, w6, g1, g2, hee, hal]; omega)) ?_ | refine zC default (by first | omega | (simp only [LN, hl, w6, g1, g2, hee, hal]; omega)) ?_ | refine And.intro (by first | decide | omega | assumption | (simp only [LN, hl, w6, g1, g2, hee, hal]; omega)) ?_) | ((with_reducible show pickE _ _ _); first | refine zA _ ⟨by omega, by rfl⟩ ?_ | refine zA _ (by rfl) ?_) | fail); try simp -dsimp -implicitDefEqProofs (maxSteps := 1000000) (disch := first | omega | (simp only [LN, hl, w6, g1, g2, hee, hal]; omega)) only [go_sem, hl, w6, g1, g2, hee, hal])
        | fail)
       all_goals first | omega | ((refine zZ (j + 1) ?_ ?_ ?_; (exact ⟨⟨by omega, by omega⟩, by show (cpN l (k + 1 + j + 1)).length ≤ _; rw [hq2]; omega⟩); (show _ < _; omega); (simp -dsimp -implicitDefEqProofs (maxSteps := 1000000) (disch := first | omega | (simp only [LN, w5, ha, hq2, show k + 1 + (j + 1) = k + 1 + j + 1 from rfl]; omega)) only [go_sem, w5, ha, hq2, show k + 1 + (j + 1) = k + 1 + j + 1 from rfl]; try trivial)))
      ·have hq := hq hee
       have hs := hs hq (by omega)
       have hlq : (cpN l (k + 1 + j + 1)).length = (cpN l (k + 1 + j)).length + 1 := by rw [hq]; simp
       have w7 : IntKind.i64.wrap (((cpN l (k + 1 + j)).length : Int) + 1) = (((cpN l (k + 1 + j)).length + 1 : Nat) : Int) := by rw [IntKind.wrap_i64]; push_cast; omega
       repeat' (first
        | (with_reducible first | apply zY | apply zT | apply zM | apply zN | apply zO | refine chk_ok (by kernel_rfl) ?_)
        | ((with_reducible first | apply zP | apply zQ | apply zR | apply zL) <;> intro h <;> try (exfalso; first | omega | exact h rfl | (revert h; decide) | (cases h; done)))
        | ((with_reducible show False); omega)
        | ((first | (with_reducible first | apply zW | apply zV | apply zU | apply zS | apply zX | show VX _ _ _ _ _ _ _ | show vstep _ _ _ _ _ | show vskip _ _ _ | show withV _ _) | ((with_reducible show endA _ _ _ _ _ _ _); simp -implicitDefEqProofs only [endA]) | (with_reducible first | refine zB default (by first | omega | (simp only [LN, hl, w6, g1, g2, hee, hal]; omega)) (by first | omega | (simp only [LN, hl, w6, g1, g2, hee, hal]; omega)) ?_ | refine zC default (by first | omega | (simp only [LN, hl, w6, g1, g2, hee, hal]; omega)) ?_ | refine And.intro (by first | decide | omega | assumption | (simp only [LN, hl, w6, g1, g2, hee, hal]; omega)) ?_) | ((with_reducible show pickE _ _ _); first | refine zA _ ⟨by omega, by rfl⟩ ?_ | refine zA _ (by rfl) ?_) | fail); try simp -dsimp -implicitDefEqProofs (maxSteps := 1000000) (disch := first | omega | (simp only [LN, hl, w6, g1, g2, hee, hal]; omega)) only [go_sem, hl, w6, g1, g2, hee, hal])
        | fail)
       all_goals first | omega | ((refine zZ (j + 1) ?_ ?_ ?_; (exact ⟨⟨by omega, by omega⟩, by show (cpN l (k + 1 + j + 1)).length ≤ _; omega⟩); (show _ < _; omega); (simp -dsimp -implicitDefEqProofs (maxSteps := 1000000) (disch := first | omega | (simp only [LN, w5, w7, hs, hlq, show k + 1 + (j + 1) = k + 1 + j + 1 from rfl]; omega)) only [go_sem, w5, w7, hs, hlq, show k + 1 + (j + 1) = k + 1 + j + 1 from rfl]; try trivial)))
     ·have e28 : k + 1 + j = 28 := by omega
      have hcl := aC_clr l
      have hzz : (28 - (cpN l 28).length) = 28 - (cpN l 28).length := rfl
      rw [e28] at hal
      have hdn : List.drop ((cpN l 28).length + (28 - (cpN l 28).length)) (aC l 28) = [] := List.drop_eq_nil_of_le (by omega)
      have hrp : List.map eU (List.replicate (28 - (cpN l 28).length) 0) = List.replicate (28 - (cpN l 28).length) (PV.v (.int .u64 0)) := by rw [List.map_replicate]; rfl
      repeat' (first
       | (with_reducible first | apply zY | apply zT | apply zM | apply zN | apply zO | refine chk_ok (by kernel_rfl) ?_)
       | ((with_reducible first | apply zP | apply zQ | apply zR | apply zL) <;> intro h <;> try (exfalso; first | omega | exact h rfl | (revert h; decide) | (cases h; done)))
       | ((with_reducible show False); omega)
       | ((first | (with_reducible first | apply zW | apply zV | apply zU | apply zS | apply zX | show VX _ _ _ _ _ _ _ | show vstep _ _ _ _ _ | show vskip _ _ _ | show withV _ _) | ((with_reducible show endA _ _ _ _ _ _ _); simp -implicitDefEqProofs only [endA]) | (with_reducible first | refine zB default (by first | omega | (simp only [LN, hl, e28, hal, hcl, hdn]; omega)) (by first | omega | (simp only [LN, hl, e28, hal, hcl, hdn]; omega)) ?_ | refine zC default (by first | omega | (simp only [LN, hl, e28, hal, hcl, hdn]; omega)) ?_ | refine And.intro (by first | decide | omega | assumption | (simp only [LN, hl, e28, hal, hcl, hdn]; omega)) ?_) | ((with_reducible show pickE _ _ _); first | refine zA _ ⟨by omega, by rfl⟩ ?_ | refine zA _ (by rfl) ?_) | fail); try simp -dsimp -implicitDefEqProofs (maxSteps := 1000000) (disch := first | omega | (simp only [LN, hl, e28, hal, hcl, hdn]; omega)) only [go_sem, hl, e28, hal, hcl, hdn])
       | fail)
      all_goals first | omega | (exact .inl (by rw [hrp]))
   ·have hn := cpN_n (l := l) (j := k + 1) he
    rw [hp, ← yE default (show k + 1 < l.length by omega)] at hn
    repeat' (first
     | (with_reducible first | apply zY | apply zT | apply zM | apply zN | apply zO | refine chk_ok (by kernel_rfl) ?_)
     | ((with_reducible first | apply zP | apply zQ | apply zR | apply zL) <;> intro h <;> try (exfalso; first | omega | exact h rfl | (revert h; decide) | (cases h; done)))
     | ((with_reducible show False); omega)
     | ((first | (with_reducible first | apply zW | apply zV | apply zU | apply zS | apply zX | show VX _ _ _ _ _ _ _ | show vstep _ _ _ _ _ | show vskip _ _ _ | show withV _ _) | ((with_reducible show endA _ _ _ _ _ _ _); simp -implicitDefEqProofs only [endA]) | (with_reducible first | refine zB default (by first | omega | (simp only [LN, hl, w4]; omega)) (by first | omega | (simp only [LN, hl, w4]; omega)) ?_ | refine zC default (by first | omega | (simp only [LN, hl, w4]; omega)) ?_ | refine And.intro (by first | decide | omega | assumption | (simp only [LN, hl, w4]; omega)) ?_) | ((with_reducible show pickE _ _ _); first | refine zA _ ⟨by omega, by rfl⟩ ?_ | refine zA _ (by rfl) ?_) | fail); try simp -dsimp -implicitDefEqProofs (maxSteps := 1000000) (disch := first | omega | (simp only [LN, hl, w4]; omega)) only [go_sem, hl, w4])
     | fail)
    all_goals first | omega | ((refine zZ (k + 2) ?_ ?_ ?_; (exact ⟨⟨by omega, by omega⟩, hn⟩); (show _ < _; omega); (simp -dsimp -implicitDefEqProofs (maxSteps := 1000000) (disch := first | omega | (simp only [LN, w3]; omega)) only [go_sem, w3]; try trivial)))
  ·obtain rfl : k = 27 := by omega
   rw [hp, List.length_take] at hd
   exact absurd hd (by omega)
end Go.Proofs.YtegekpjkbedngaaGreat
namespace Go.Proofs.YtegekpjkbedngaaGreat
set_option maxHeartbeats 4000000
set_option maxRecDepth 100000
open Go Go.Ab
attribute [local irreducible] callK callF loopQ vstep vskip pickE hideP
abbrev Ins' := Int × Int × Int
def wsI (a : Nat) (v : Nat → Int) : List (Int × Int) := (List.range 28).map fun i => (((wO a i : Nat) : Int), v i)
def lnL (a : Nat) : List Int := (List.range 28).map fun i => ((64 * (wO a i / 64) : Nat) : Int)
def toS (w : Int × Int) : Ins' := (1, w.1, w.2)
def toF (o : Int) : Ins' := (2, o, 0)
def stP (a : Nat) (v : Nat → Int) : List Ins' := (wsI a v).map toS ++ (cpN (lnL a) 28).map toF ++ [(3, 0, 0)]
theorem wsI_len (a : Nat) (v : Nat → Int) : (wsI a v).length = 28 := by simp [wsI]
theorem lnL_len (a : Nat) : (lnL a).length = 28 := by simp [lnL]
theorem wsI_get (a : Nat) (v : Nat → Int) {i : Nat} (hi : i < 28) : (wsI a v).getD i default = (((wO a i : Nat) : Int), v i) := by
 unfold wsI; rw [List.getD_eq_getElem?_getD]; simp [hi]
theorem lnL_get (a : Nat) {i : Nat} (hi : i < 28) : (lnL a).getD i default = ((64 * (wO a i / 64) : Nat) : Int) := by
 unfold lnL; rw [List.getD_eq_getElem?_getD]; simp [hi]
theorem lnL_srt (a : Nat) : Srt (lnL a) := ⟨lnL_len a, fun i j h hj => by
 rw [lnL_get a hj, lnL_get a (show i < 28 by omega), wO_def, wO_def]; omega⟩
theorem cpN_le1 (l : List Int) {j : Nat} (h0 : 0 < j) (h : l.getD j default = l.getD (j - 1) default) : ∀ d, (cpN l (j + 1 + d)).length ≤ j + d
 | 0 => by rw [Nat.add_zero, cpN_e h0 h]; exact cpN_len l j
 | d + 1 => by
  have := cpN_le1 l h0 h d
  rw [show j + 1 + (d + 1) = (j + 1 + d) + 1 from rfl, cpN]; split
  ·omega
  ·rw [List.length_append]; simp only [List.length_cons, List.length_nil]; omega
theorem lnL_cp (a : Nat) : (cpN (lnL a) 28).length < 28 := by
 rcases Nat.lt_or_ge (a % 8) 7 with h | h
 ·have := cpN_le1 (lnL a) (j := 8 - (a % 8 + 1)) (by omega)
  by_cases h6 : a % 8 = 6
  ·have := cpN_le1 (lnL a) (j := 2) (by omega) (by rw [lnL_get a (by omega), lnL_get a (by omega), wO_def, wO_def]; omega) 25
   exact Nat.lt_of_le_of_lt this (by omega)
  ·have := cpN_le1 (lnL a) (j := 1) (by omega) (by rw [lnL_get a (by omega), lnL_get a (by omega), wO_def, wO_def]; omega) 26
   exact Nat.lt_of_le_of_lt this (by omega)
 ·have := cpN_le1 (lnL a) (j := 1) (by omega) (by rw [lnL_get a (by omega), lnL_get a (by omega), wO_def, wO_def]; omega) 26
  exact Nat.lt_of_le_of_lt this (by omega)
def cpZ (l : List Int) : List Int := cpN l 28 ++ List.replicate (28 - (cpN l 28).length) 0
attribute [local go_sem] eU eIn eWr
theorem kStores (a : Nat) (ha : a < 30) (v : Nat → Int) : PCalls Tryz.prog 8 [.view 2 ((wsI a v).map eWr)] (.view 3 ((stP a v).map eIn)) := by
 refine yD ⟨_, rfl, rfl, by decide⟩ fun hf => ?_
 simp only [go_sem, big] at hf
 refine yB (E := E) (fn := Tryz.f8) 55 [.tmp 2] rfl rfl rfl rfl (by decide) rfl ?_
 have hw := wsI_len a v
 have hln := lnL_len a
 repeat' (first
  | (with_reducible first | apply zY | apply zT | apply zM | apply zN | apply zO | refine chk_ok (by kernel_rfl) ?_)
  | ((with_reducible first | apply zP | apply zQ | apply zR | apply zL) <;> intro h <;> try (exfalso; first | omega | exact h rfl | (revert h; decide) | (cases h; done)))
  | ((with_reducible show False); omega)
  | ((first | (with_reducible first | apply zW | apply zV | apply zU | apply zS | apply zX | show VX _ _ _ _ _ _ _ | show vstep _ _ _ _ _ | show vskip _ _ _ | show withV _ _) | ((with_reducible show endA _ _ _ _ _ _ _); simp -implicitDefEqProofs only [endA]) | (with_reducible first | refine zB default (by first | omega | (simp only [LN, hw]; omega)) (by first | omega | (simp only [LN, hw]; omega)) ?_ | refine zC default (by first | omega | (simp only [LN, hw]; omega)) ?_ | refine And.intro (by first | decide | omega | assumption | (simp only [LN, hw]; omega)) ?_) | ((with_reducible show pickE _ _ _); first | refine zA _ ⟨by omega, by rfl⟩ ?_ | refine zA _ (by rfl) ?_) | fail); try simp -dsimp -implicitDefEqProofs (maxSteps := 1000000) (disch := first | omega | (simp only [LN, hw]; omega)) only [go_sem, hw])
  | fail)
 all_goals try omega
 refine r_loopA (α := Nat) [15, 16] (fun i b => [(17, aI i), (3, .sl b 3 0 i), (4, .sl (b + 1) 1 0 i)]) (fun i b => []) (fun i => [.arr 3 (((wsI a v).take i).map fun w => eIn (toS w)), .arr 1 (((lnL a).take i).map eU)]) (fun i => i ≤ 28) (fun i => 28 - i) (0) ?h0_1 ?hs0_1 ?I_1 ?hI_1 ?round_1
 case hI_1 => intro x; (simp -dsimp -implicitDefEqProofs (maxSteps := 1000000) (disch := first | omega | (simp only [LN]; omega)) only [go_sem]) <;> exact rfl
 case hs0_1 => refine wk_auto ?_; (simp -dsimp -implicitDefEqProofs (maxSteps := 1000000) (disch := first | omega | (simp only [LN, List.take_zero]; omega)) only [go_sem, List.take_zero]) <;> (try omega)
 case h0_1 => exact Nat.zero_le _
 case round_1 =>
  intro i hi
  have w3 : IntKind.i64.wrap ((i : Int) + 1) = ((i + 1 : Nat) : Int) := by rw [IntKind.wrap_i64]; push_cast; omega
  by_cases hi2 : i < 28
  ·have hg := wsI_get a v hi2
   have hwo := wO_def a i
   have kl := qStart (wO a i) (by omega)
   have hs1 : (wsI a v).take (i + 1) = (wsI a v).take i ++ [(((wO a i : Nat) : Int), v i)] := by rw [yE default (by rw [hw]; exact hi2), hg]
   have hs2 : (lnL a).take (i + 1) = (lnL a).take i ++ [((64 * (wO a i / 64) : Nat) : Int)] := by rw [yE default (by rw [lnL_len]; exact hi2), lnL_get a hi2]
   generalize 64 * (wO a i / 64) = ln at *
   generalize wO a i = o at *
   repeat' (first
    | (with_reducible first | apply zY | apply zT | apply zM | apply zN | apply zO | refine chk_ok (by kernel_rfl) ?_)
    | ((with_reducible first | apply zP | apply zQ | apply zR | apply zL) <;> intro h <;> try (exfalso; first | omega | exact h rfl | (revert h; decide) | (cases h; done)))
    | ((with_reducible show False); omega)
    | ((first | (with_reducible first | apply zW | apply zV | apply zU | apply zS | apply zX | show VX _ _ _ _ _ _ _ | show vstep _ _ _ _ _ | show vskip _ _ _ | show withV _ _) | ((with_reducible show endA _ _ _ _ _ _ _); simp -implicitDefEqProofs only [endA]) | (with_reducible first | refine zB default (by first | omega | (simp only [LN, hg, hw, hln]; omega)) (by first | omega | (simp only [LN, hg, hw, hln]; omega)) ?_ | refine zC default (by first | omega | (simp only [LN, hg, hw, hln]; omega)) ?_ | refine And.intro (by first | decide | omega | assumption | (simp only [LN, hg, hw, hln]; omega)) ?_) | ((with_reducible apply zD); (exact kl)) | ((with_reducible apply zE); (exact kl); rfl) | ((with_reducible apply zF); (exact kl)) | ((with_reducible show pickE _ _ _); first | refine zA _ ⟨by omega, by rfl⟩ ?_ | refine zA _ (by rfl) ?_) | fail); try simp -dsimp -implicitDefEqProofs (maxSteps := 1000000) (disch := first | omega | (simp only [LN, hg, hw, hln]; omega)) only [go_sem, hg, hw, hln])
    | fail)
   all_goals first | omega | ((refine zZ (i + 1) ?_ ?_ ?_; (omega); (show _ < _; omega); (simp -dsimp -implicitDefEqProofs (maxSteps := 1000000) (disch := first | omega | (simp only [LN, w3, hs1, hs2, List.map_append, toS]; omega)) only [go_sem, w3, hs1, hs2, List.map_append, toS]; try trivial)))
  ·obtain rfl : i = 28 := by omega
   have ht1 : (wsI a v).take 28 = wsI a v := List.take_of_length_le (by rw [hw]; omega)
   have ht2 : (lnL a).take 28 = lnL a := List.take_of_length_le (by rw [lnL_len]; omega)
   have ks := sSort (lnL a) (lnL_srt a)
   have kc := sCompact (lnL a) (lnL_len a) (lnL_cp a)
   rw [show cpN (lnL a) 28 ++ List.replicate (28 - (cpN (lnL a) 28).length) 0 = cpZ (lnL a) from rfl] at kc
   repeat' (first
    | (with_reducible first | apply zY | apply zT | apply zM | apply zN | apply zO | refine chk_ok (by kernel_rfl) ?_)
    | ((with_reducible first | apply zP | apply zQ | apply zR | apply zL) <;> intro h <;> try (exfalso; first | omega | exact h rfl | (revert h; decide) | (cases h; done)))
    | ((with_reducible show False); omega)
    | ((first | (with_reducible first | apply zW | apply zV | apply zU | apply zS | apply zX | show VX _ _ _ _ _ _ _ | show vstep _ _ _ _ _ | show vskip _ _ _ | show withV _ _) | ((with_reducible show endA _ _ _ _ _ _ _); simp -implicitDefEqProofs only [endA]) | (with_reducible first | refine zB default (by first | omega | (simp only [LN, ht1, ht2, hln]; omega)) (by first | omega | (simp only [LN, ht1, ht2, hln]; omega)) ?_ | refine zC default (by first | omega | (simp only [LN, ht1, ht2, hln]; omega)) ?_ | refine And.intro (by first | decide | omega | assumption | (simp only [LN, ht1, ht2, hln]; omega)) ?_) | ((with_reducible apply zD); (exact ks)) | ((with_reducible apply zE); (exact ks); rfl) | ((with_reducible apply zF); (exact ks)) | (with_reducible first | apply zG | apply zH | apply zI | apply hidePI_own) | ((with_reducible apply zJ); (first | exact kc | fail)) | ((with_reducible show pickE _ _ _); first | refine zA _ ⟨by omega, by rfl⟩ ?_ | refine zA _ (by rfl) ?_) | fail); try simp -dsimp -implicitDefEqProofs (maxSteps := 1000000) (disch := first | omega | (simp only [LN, ht1, ht2, hln]; omega)) only [go_sem, ht1, ht2, hln])
    | fail)
   all_goals try omega
   have hcm := lnL_cp a
   have hst : stP a v = (wsI a v).map toS ++ (cpN (lnL a) 28).map toF ++ [(3, 0, 0)] := rfl
   have hcg : ∀ i, i < (cpN (lnL a) 28).length → (cpZ (lnL a)).getD i default = (cpN (lnL a) 28).getD i default := by
    intro i h
    rw [cpZ, List.getD_eq_getElem?_getD, List.getD_eq_getElem?_getD, List.getElem?_append_left h]
   have hrl : (cpZ (lnL a)).length = 28 := by rw [cpZ, List.length_append, List.length_replicate]; omega
   generalize cpZ (lnL a) = cz at *
   generalize cpN (lnL a) 28 = cp at *
   refine r_loopA (α := Nat) [39, 40] (fun j b => [(41, aI j), (3, .sl b 3 0 (28 + j))]) (fun j b => []) (fun j => [.arr 3 ((wsI a v).map (fun w => eIn (toS w)) ++ (cp.take j).map fun o => eIn (toF o))]) (fun j => j ≤ cp.length) (fun j => cp.length - j) (0) ?h0_2 ?hs0_2 ?I_2 ?hI_2 ?round_2
   case hI_2 => intro x; (simp -dsimp -implicitDefEqProofs (maxSteps := 1000000) (disch := first | omega | (simp only [LN]; omega)) only [go_sem]) <;> exact rfl
   case hs0_2 => refine wk_auto ?_; (simp -dsimp -implicitDefEqProofs (maxSteps := 1000000) (disch := first | omega | (simp only [LN, List.take_zero, List.map_nil, List.append_nil]; omega)) only [go_sem, List.take_zero, List.map_nil, List.append_nil]) <;> (try omega)
   case h0_2 => exact Nat.zero_le _
   case round_2 =>
    intro j hj
    have w4 : IntKind.i64.wrap ((j : Int) + 1) = ((j + 1 : Nat) : Int) := by rw [IntKind.wrap_i64]; push_cast; omega
    by_cases hj2 : j < cp.length
    ·have hg := hcg j hj2
     have hs1 := yE default hj2
     generalize cp.getD j default = x at *
     repeat' (first
      | (with_reducible first | apply zY | apply zT | apply zM | apply zN | apply zO | refine chk_ok (by kernel_rfl) ?_)
      | ((with_reducible first | apply zP | apply zQ | apply zR | apply zL) <;> intro h <;> try (exfalso; first | omega | exact h rfl | (revert h; decide) | (cases h; done)))
      | ((with_reducible show False); omega)
      | ((first | (with_reducible first | apply zW | apply zV | apply zU | apply zS | apply zX | show VX _ _ _ _ _ _ _ | show vstep _ _ _ _ _ | show vskip _ _ _ | show withV _ _) | ((with_reducible show endA _ _ _ _ _ _ _); simp -implicitDefEqProofs only [endA]) | (with_reducible first | refine zB default (by first | omega | (simp only [LN, hg, hw, hrl]; omega)) (by first | omega | (simp only [LN, hg, hw, hrl]; omega)) ?_ | refine zC default (by first | omega | (simp only [LN, hg, hw, hrl]; omega)) ?_ | refine And.intro (by first | decide | omega | assumption | (simp only [LN, hg, hw, hrl]; omega)) ?_) | ((with_reducible show pickE _ _ _); first | refine zA _ ⟨by omega, by rfl⟩ ?_ | refine zA _ (by rfl) ?_) | fail); try simp -dsimp -implicitDefEqProofs (maxSteps := 1000000) (disch := first | omega | (simp only [LN, hg, hw, hrl]; omega)) only [go_sem, hg, hw, hrl])
      | fail)
     all_goals first | omega | ((refine zZ (j + 1) ?_ ?_ ?_; (omega); (show _ < _; omega); (simp -dsimp -implicitDefEqProofs (maxSteps := 1000000) (disch := first | omega | (simp only [LN, w4, hs1, List.map_append, List.append_assoc, List.map_cons, List.map_nil, toF, Nat.add_assoc]; omega)) only [go_sem, w4, hs1, List.map_append, List.append_assoc, List.map_cons, List.map_nil, toF, Nat.add_assoc]; try trivial)))
    ·obtain rfl : j = cp.length := by omega
     rw [List.take_length] at *
     repeat' (first
      | (with_reducible first | apply zY | apply zT | apply zM | apply zN | apply zO | refine chk_ok (by kernel_rfl) ?_)
      | ((with_reducible first | apply zP | apply zQ | apply zR | apply zL) <;> intro h <;> try (exfalso; first | omega | exact h rfl | (revert h; decide) | (cases h; done)))
      | ((with_reducible show False); omega)
      | ((first | (with_reducible first | apply zW | apply zV | apply zU | apply zS | apply zX | show VX _ _ _ _ _ _ _ | show vstep _ _ _ _ _ | show vskip _ _ _ | show withV _ _) | ((with_reducible show endA _ _ _ _ _ _ _); simp -implicitDefEqProofs only [endA]) | (with_reducible first | refine zB default (by first | omega | (simp only [LN, hw, hrl]; omega)) (by first | omega | (simp only [LN, hw, hrl]; omega)) ?_ | refine zC default (by first | omega | (simp only [LN, hw, hrl]; omega)) ?_ | refine And.intro (by first | decide | omega | assumption | (simp only [LN, hw, hrl]; omega)) ?_) | ((with_reducible show pickE _ _ _); first | refine zA _ ⟨by omega, by rfl⟩ ?_ | refine zA _ (by rfl) ?_) | fail); try simp -dsimp -implicitDefEqProofs (maxSteps := 1000000) (disch := first | omega | (simp only [LN, hw, hrl]; omega)) only [go_sem, hw, hrl])
      | fail)
     all_goals first | omega | (rw [hst, List.map_append, List.map_append, List.map_map, List.map_map]; rfl)
end Go.Proofs.YtegekpjkbedngaaGreat
