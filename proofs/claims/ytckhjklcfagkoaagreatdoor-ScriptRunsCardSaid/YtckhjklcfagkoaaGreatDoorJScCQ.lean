/- Contracts of functions of this program, and the plain facts that they rest on. No conditions. -/
import Derived.Test.YtckhjklcfagkoaaGreatDoorScAQ
set_option linter.unusedSimpArgs false
set_option linter.unusedVariables false
namespace Go.Proofs.YtckhjklcfagkoaaGreatDoor
set_option maxHeartbeats 4000000
set_option maxRecDepth 100000
open Go Go.Ab
attribute [local irreducible] callK callF loopQ vstep vskip pickE hideP
attribute [local go_sem] eE rE
theorem okE_is {x : Ev} {b : Bool} (h : b = true ↔ okK x) : b = okE x := by
 unfold okE
 cases b with
 | true => exact (decide_eq_true (h.1 rfl)).symm
 | false => exact (decide_eq_false fun hk => Bool.noConfusion (h.2 hk)).symm
theorem okE_1 {x : Ev} {b : Bool} (hk : x.k = 1) (h : b = true ↔ ((0 ≤ x.th ∧ x.th ≤ 7) ∧ x.w = 0 ∧ x.ln = 0 ∧ x.n = 0 ∧ x.ch.length = 0)) : Value.bool b = Value.bool (okE x) := by
 refine congrArg Value.bool (okE_is ?_)
 unfold okK; rw [h]; simp [hk]
theorem okE_2 {x : Ev} {b : Bool} (hk : x.k = 2) (h : b = true ↔ ((0 ≤ x.th ∧ x.th ≤ 7) ∧ x.ln = 0 ∧ x.n = 0 ∧ x.ch.length = 0)) : Value.bool b = Value.bool (okE x) := by
 refine congrArg Value.bool (okE_is ?_)
 unfold okK; rw [h]; simp [hk]
theorem okE_3 {x : Ev} {b : Bool} (hk : x.k = 3) (h : b = true ↔ ((0 ≤ x.th ∧ x.th ≤ 7) ∧ x.v = 0 ∧ x.w = 0 ∧ x.ln = 0 ∧ x.n = 0 ∧ x.ch.length = 0)) : Value.bool b = Value.bool (okE x) := by
 refine congrArg Value.bool (okE_is ?_)
 unfold okK; rw [h]; simp [hk]
theorem okE_4 {x : Ev} {b : Bool} (hk : x.k = 4) (h : b = true ↔ ((0 ≤ x.th ∧ x.th ≤ 7) ∧ x.o = 0 ∧ x.v = 0 ∧ x.w = 0 ∧ x.ln = 0 ∧ x.n = 0 ∧ x.ch.length = 0)) : Value.bool b = Value.bool (okE x) := by
 refine congrArg Value.bool (okE_is ?_)
 unfold okK; rw [h]; simp [hk]
theorem okE_5 {x : Ev} {b : Bool} (hk : x.k = 5) (h : b = true ↔ (x.th = 0 ∧ x.o = 0 ∧ x.v = 0 ∧ x.w = 0 ∧ (0 ≤ x.ln ∧ x.ln ≤ 4095) ∧ (0 ≤ x.n ∧ x.n ≤ 2147483647) ∧ x.ch.length = 0)) : Value.bool b = Value.bool (okE x) := by
 refine congrArg Value.bool (okE_is ?_)
 unfold okK; rw [h]; simp [hk]
theorem okE_6 {x : Ev} {b : Bool} (hk : x.k = 6) (h : b = true ↔ (x.th = 0 ∧ x.o = 0 ∧ x.v = 0 ∧ x.w = 0 ∧ x.ln = 0 ∧ (-1 ≤ x.n ∧ x.n ≤ 2147483647) ∧ x.ch.length = 0)) : Value.bool b = Value.bool (okE x) := by
 refine congrArg Value.bool (okE_is ?_)
 unfold okK; rw [h]; simp [hk]
theorem okE_7 {x : Ev} {b : Bool} (hk : x.k = 7) (h : b = true ↔ (x.th = 0 ∧ x.o = 0 ∧ x.v = 0 ∧ x.w = 0 ∧ x.ln = 0 ∧ x.n = 0 ∧ x.ch.length ≤ 512)) : Value.bool b = Value.bool (okE x) := by
 refine congrArg Value.bool (okE_is ?_)
 unfold okK; rw [h]; simp [hk]
theorem okE_0 {x : Ev} (hk : x.k < 1 ∨ 7 < x.k) : Value.bool false = Value.bool (okE x) := by
 refine congrArg Value.bool (okE_is ?_)
 unfold okK; simp only [Bool.false_eq_true, false_iff]; omega
theorem dec_is {p : Prop} [Decidable p] {b : Bool} (h : b = true ↔ p) : Value.bool b = Value.bool (decide p) := by
 congr 1
 cases b with
 | true => exact (decide_eq_true (h.1 rfl)).symm
 | false => exact (decide_eq_false fun hk => Bool.noConfusion (h.2 hk)).symm
def plB (x : Ev) : Bool := decide (x.ln = 0 ∧ x.n = 0)
def woB (x : Ev) : Bool := decide (x.th = 0 ∧ x.o = 0 ∧ x.v = 0 ∧ x.w = 0)
theorem sValid (x : Ev) (hc : x.ch.length ≤ 1000000) : PCalls Tryz.prog 33 [eE x] (.v (.bool (okE x))) := by
 refine yB (E := E) (fn := Tryz.f33) 138 [.tmp 2] rfl rfl rfl rfl (by decide) rfl ?_
 have h1 : plB x = true ↔ (x.ln = 0 ∧ x.n = 0) := decide_eq_true_iff
 have h2 : woB x = true ↔ (x.th = 0 ∧ x.o = 0 ∧ x.v = 0 ∧ x.w = 0) := decide_eq_true_iff
 have hks : x.k = 1 ∨ x.k = 2 ∨ x.k = 3 ∨ x.k = 4 ∨ x.k = 5 ∨ x.k = 6 ∨ x.k = 7 ∨ (x.k < 1 ∨ 7 < x.k) := by omega
 repeat' ((fail_if_success (with_reducible show awp _ _ (Code.seq (Code.region 7 _ _) _) _ _)); first
  | (with_reducible first | apply zY | apply zT | apply zM | apply zN | apply zO | refine chk_ok (by kernel_rfl) ?_)
  | ((with_reducible first | apply zP | apply zQ | apply zR | apply zL) <;> intro h <;> try (exfalso; first | omega | exact h rfl | (revert h; decide) | (cases h; done)))
  | ((with_reducible show False); omega)
  | ((first | (with_reducible first | apply zW | apply zV | apply zU | apply zS | apply zX | show VX _ _ _ _ _ _ _ | show vstep _ _ _ _ _ | show vskip _ _ _ | show withV _ _) | ((with_reducible show endA _ _ _ _ _ _ _); simp -implicitDefEqProofs only [endA]) | (with_reducible first | refine zB default (by first | omega | (simp only [LN]; omega)) (by first | omega | (simp only [LN]; omega)) ?_ | refine zC default (by first | omega | (simp only [LN]; omega)) ?_ | refine And.intro (by first | decide | omega | assumption | (simp only [LN]; omega)) ?_) | ((with_reducible show pickE _ _ _); first | refine zA _ ⟨by omega, by rfl⟩ ?_ | refine zA _ (by rfl) ?_) | fail); try simp -dsimp -implicitDefEqProofs (maxSteps := 1000000) (disch := first | omega | (simp only [LN]; omega)) only [go_sem])
  | fail)
 all_goals first | (exfalso; omega) | (rcases hks with hks | hks | hks | hks | hks | hks | hks | hks <;> first | (exfalso; omega) | exact okE_0 hks | (refine okE_1 hks ?_; simp only [Bool.false_eq_true, false_iff]; omega) | (refine okE_2 hks ?_; simp only [Bool.false_eq_true, false_iff]; omega) | (refine okE_3 hks ?_; simp only [Bool.false_eq_true, false_iff]; omega) | (refine okE_4 hks ?_; simp only [Bool.false_eq_true, false_iff]; omega) | (refine okE_5 hks ?_; simp only [Bool.false_eq_true, false_iff]; omega) | (refine okE_6 hks ?_; simp only [Bool.false_eq_true, false_iff]; omega) | (refine okE_7 hks ?_; simp only [Bool.false_eq_true, false_iff]; omega)) | skip
 all_goals
  refine r_cut (α := Nat) [1] (fun u b => [(3, .p (.v (.bool (plB x))))]) (fun u b => []) (fun u => []) (fun u => u ≤ 5) ?I_1 ?hI_1 ?way_1 ?rest_1
  case hI_1 => intro x; (simp -dsimp -implicitDefEqProofs (maxSteps := 1000000) (disch := first | omega | (simp only [LN]; omega)) only [go_sem]) <;> exact rfl
  case way_1 =>
   repeat' (first
    | (with_reducible first | apply zY | apply zT | apply zM | apply zN | apply zO | refine chk_ok (by kernel_rfl) ?_)
    | ((with_reducible first | apply zP | apply zQ | apply zR | apply zL) <;> intro h <;> try (exfalso; first | omega | exact h rfl | (revert h; decide) | (cases h; done)))
    | ((with_reducible show False); omega)
    | ((first | (with_reducible first | apply zW | apply zV | apply zU | apply zS | apply zX | show VX _ _ _ _ _ _ _ | show vstep _ _ _ _ _ | show vskip _ _ _ | show withV _ _) | ((with_reducible show endA _ _ _ _ _ _ _); simp -implicitDefEqProofs only [endA]) | (with_reducible first | refine zB default (by first | omega | (simp only [LN]; omega)) (by first | omega | (simp only [LN]; omega)) ?_ | refine zC default (by first | omega | (simp only [LN]; omega)) ?_ | refine And.intro (by first | decide | omega | assumption | (simp only [LN]; omega)) ?_) | ((with_reducible show pickE _ _ _); first | refine zA _ ⟨by omega, by rfl⟩ ?_ | refine zA _ (by rfl) ?_) | fail); try simp -dsimp -implicitDefEqProofs (maxSteps := 1000000) (disch := first | omega | (simp only [LN]; omega)) only [go_sem])
    | fail)
   all_goals
    (refine cut_next (0) ?_ ?_; (omega); (simp -dsimp -implicitDefEqProofs (maxSteps := 1000000) (disch := first | omega | (simp only [LN, plB]; omega)) only [go_sem, plB]; try trivial))
    all_goals first | (refine dec_is ?_; simp only [beq_iff_eq, Bool.false_eq_true, true_iff, false_iff]; omega)
  case rest_1 =>
   intro u _
   refine r_cut (α := Nat) [1, 3] (fun u b => [(4, .p (.v (.bool (woB x))))]) (fun u b => []) (fun u => []) (fun u => u ≤ 5) ?I_2 ?hI_2 ?way_2 ?rest_2
   case hI_2 => intro x; (simp -dsimp -implicitDefEqProofs (maxSteps := 1000000) (disch := first | omega | (simp only [LN]; omega)) only [go_sem]) <;> exact rfl
   case way_2 =>
    repeat' (first
     | (with_reducible first | apply zY | apply zT | apply zM | apply zN | apply zO | refine chk_ok (by kernel_rfl) ?_)
     | ((with_reducible first | apply zP | apply zQ | apply zR | apply zL) <;> intro h <;> try (exfalso; first | omega | exact h rfl | (revert h; decide) | (cases h; done)))
     | ((with_reducible show False); omega)
     | ((first | (with_reducible first | apply zW | apply zV | apply zU | apply zS | apply zX | show VX _ _ _ _ _ _ _ | show vstep _ _ _ _ _ | show vskip _ _ _ | show withV _ _) | ((with_reducible show endA _ _ _ _ _ _ _); simp -implicitDefEqProofs only [endA]) | (with_reducible first | refine zB default (by first | omega | (simp only [LN]; omega)) (by first | omega | (simp only [LN]; omega)) ?_ | refine zC default (by first | omega | (simp only [LN]; omega)) ?_ | refine And.intro (by first | decide | omega | assumption | (simp only [LN]; omega)) ?_) | ((with_reducible show pickE _ _ _); first | refine zA _ ⟨by omega, by rfl⟩ ?_ | refine zA _ (by rfl) ?_) | fail); try simp -dsimp -implicitDefEqProofs (maxSteps := 1000000) (disch := first | omega | (simp only [LN]; omega)) only [go_sem])
     | fail)
    all_goals
     (refine cut_next (0) ?_ ?_; (omega); (simp -dsimp -implicitDefEqProofs (maxSteps := 1000000) (disch := first | omega | (simp only [LN, woB]; omega)) only [go_sem, woB]; try trivial))
     all_goals first | (refine dec_is ?_; simp only [beq_iff_eq, Bool.false_eq_true, true_iff, false_iff]; omega)
   case rest_2 =>
    intro u _
    rcases hks with hk | hk | hk | hk | hk | hk | hk | hk
    all_goals
     cases hp : plB x <;> cases hw : woB x
     all_goals
      simp only [hp, hw, Bool.false_eq_true, true_iff, false_iff] at h1 h2
      repeat' (first
       | (with_reducible first | apply zY | apply zT | apply zM | apply zN | apply zO | refine chk_ok (by kernel_rfl) ?_)
       | ((with_reducible first | apply zP | apply zQ | apply zR | apply zL) <;> intro h <;> try (exfalso; first | omega | exact h rfl | (revert h; decide) | (cases h; done)))
       | ((with_reducible show False); omega)
       | ((first | (with_reducible first | apply zW | apply zV | apply zU | apply zS | apply zX | show VX _ _ _ _ _ _ _ | show vstep _ _ _ _ _ | show vskip _ _ _ | show withV _ _) | ((with_reducible show endA _ _ _ _ _ _ _); simp -implicitDefEqProofs only [endA]) | (with_reducible first | refine zB default (by first | omega | (simp only [LN, hp, hw, hk]; omega)) (by first | omega | (simp only [LN, hp, hw, hk]; omega)) ?_ | refine zC default (by first | omega | (simp only [LN, hp, hw, hk]; omega)) ?_ | refine And.intro (by first | decide | omega | assumption | (simp only [LN, hp, hw, hk]; omega)) ?_) | ((with_reducible show pickE _ _ _); first | refine zA _ ⟨by omega, by rfl⟩ ?_ | refine zA _ (by rfl) ?_) | fail); try simp -dsimp -implicitDefEqProofs (maxSteps := 1000000) (disch := first | omega | (simp only [LN, hp, hw, hk]; omega)) only [go_sem, hp, hw, hk])
       | fail)
      all_goals first | exact okE_0 (by omega) | (refine okE_1 (by assumption) ?_; simp only [decide_eq_true_eq, beq_iff_eq, Bool.false_eq_true, true_iff, false_iff]; omega) | (refine okE_2 (by assumption) ?_; simp only [decide_eq_true_eq, beq_iff_eq, Bool.false_eq_true, true_iff, false_iff]; omega) | (refine okE_3 (by assumption) ?_; simp only [decide_eq_true_eq, beq_iff_eq, Bool.false_eq_true, true_iff, false_iff]; omega) | (refine okE_4 (by assumption) ?_; simp only [decide_eq_true_eq, beq_iff_eq, Bool.false_eq_true, true_iff, false_iff]; omega) | (refine okE_5 (by assumption) ?_; simp only [decide_eq_true_eq, beq_iff_eq, Bool.false_eq_true, true_iff, false_iff]; omega) | (refine okE_6 (by assumption) ?_; simp only [decide_eq_true_eq, beq_iff_eq, Bool.false_eq_true, true_iff, false_iff]; omega) | (refine okE_7 (by assumption) ?_; simp only [decide_eq_true_eq, beq_iff_eq, Bool.false_eq_true, true_iff, false_iff]; omega)
theorem rValid (x : Ev) (hc : x.ch.length ≤ 1000000) : PCalls Tryz.prog 23 [rE x] (.v (.bool (okE x))) := by
 refine yB (E := E) (fn := Tryz.f23) 138 [.tmp 2] rfl rfl rfl rfl (by decide) rfl ?_
 have hks : x.k = 1 ∨ x.k = 2 ∨ x.k = 3 ∨ x.k = 4 ∨ x.k = 5 ∨ x.k = 6 ∨ x.k = 7 ∨ (x.k < 1 ∨ 7 < x.k) := by omega
 rcases hks with hk | hk | hk | hk | hk | hk | hk | hk
 all_goals
  repeat' (first
   | (with_reducible first | apply zY | apply zT | apply zM | apply zN | apply zO | refine chk_ok (by kernel_rfl) ?_)
   | ((with_reducible first | apply zP | apply zQ | apply zR | apply zL) <;> intro h <;> try (exfalso; first | omega | exact h rfl | (revert h; decide) | (cases h; done)))
   | ((with_reducible show False); omega)
   | ((first | (with_reducible first | apply zW | apply zV | apply zU | apply zS | apply zX | show VX _ _ _ _ _ _ _ | show vstep _ _ _ _ _ | show vskip _ _ _ | show withV _ _) | ((with_reducible show endA _ _ _ _ _ _ _); simp -implicitDefEqProofs only [endA]) | (with_reducible first | refine zB default (by first | omega | (simp only [LN, hk]; omega)) (by first | omega | (simp only [LN, hk]; omega)) ?_ | refine zC default (by first | omega | (simp only [LN, hk]; omega)) ?_ | refine And.intro (by first | decide | omega | assumption | (simp only [LN, hk]; omega)) ?_) | ((with_reducible show pickE _ _ _); first | refine zA _ ⟨by omega, by rfl⟩ ?_ | refine zA _ (by rfl) ?_) | fail); try simp -dsimp -implicitDefEqProofs (maxSteps := 1000000) (disch := first | omega | (simp only [LN, hk]; omega)) only [go_sem, hk])
   | fail)
  all_goals first | exact okE_0 (by omega) | (refine okE_1 (by assumption) ?_; simp only [decide_eq_true_eq, beq_iff_eq, Bool.false_eq_true, true_iff, false_iff]; omega) | (refine okE_2 (by assumption) ?_; simp only [decide_eq_true_eq, beq_iff_eq, Bool.false_eq_true, true_iff, false_iff]; omega) | (refine okE_3 (by assumption) ?_; simp only [decide_eq_true_eq, beq_iff_eq, Bool.false_eq_true, true_iff, false_iff]; omega) | (refine okE_4 (by assumption) ?_; simp only [decide_eq_true_eq, beq_iff_eq, Bool.false_eq_true, true_iff, false_iff]; omega) | (refine okE_5 (by assumption) ?_; simp only [decide_eq_true_eq, beq_iff_eq, Bool.false_eq_true, true_iff, false_iff]; omega) | (refine okE_6 (by assumption) ?_; simp only [decide_eq_true_eq, beq_iff_eq, Bool.false_eq_true, true_iff, false_iff]; omega) | (refine okE_7 (by assumption) ?_; simp only [decide_eq_true_eq, beq_iff_eq, Bool.false_eq_true, true_iff, false_iff]; omega)
end Go.Proofs.YtckhjklcfagkoaaGreatDoor
namespace Go.Proofs.YtckhjklcfagkoaaGreatDoor
open Go Go.Ab
attribute [local irreducible] callK callF loopQ vstep vskip pickE hideP
open Go.RowKit
set_option maxRecDepth 100000
attribute [local go_sem] eE rE eT bs_inj ext_bs byteAt_bs
attribute [local irreducible] numL
def nmS : List (List UInt8) := [[], [115, 116, 111, 114, 101], [99, 97, 115], [102, 108, 117, 115, 104], [102, 101, 110, 99, 101], [119, 114, 105, 116, 101, 98, 97, 99, 107], [97, 114, 109], [99, 114, 97, 115, 104]]
theorem chL_e {l : List UInt8} (h : ¬ l.length = 0) : chL l = hexL l := by
 cases l with
 | nil => exact absurd rfl h
 | cons b l => rfl
end Go.Proofs.YtckhjklcfagkoaaGreatDoor
