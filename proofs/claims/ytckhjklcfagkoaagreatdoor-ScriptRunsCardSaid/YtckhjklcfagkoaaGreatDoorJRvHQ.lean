/- Contracts of functions of this program, and the plain facts that they rest on. No conditions. -/
import Derived.Test.YtckhjklcfagkoaaGreatDoorRvGQ
import Derived.Test.YtckhjklcfagkoaaGreatDoorJDvI0Q
import Derived.Test.YtckhjklcfagkoaaGreatDoorJDvNQ
set_option linter.unusedSimpArgs false
set_option linter.unusedVariables false
namespace Go.Proofs.YtckhjklcfagkoaaGreatDoor
set_option maxHeartbeats 4000000
set_option maxRecDepth 100000
open Go Go.Ab
attribute [local irreducible] callK callF loopQ vstep vskip pickE hideP
attribute [local go_sem] rdO rlO lns_len eNd
def RngL (ws : List Int) : Prop := ∀ j, 0 ≤ ws.getD j 0 ∧ ws.getD j 0 ≤ 18446744073709551615
theorem appL_rng (l : List (Int × Int)) (hl : ∀ x, x ∈ l → 0 ≤ x.2 ∧ x.2 ≤ 18446744073709551615) : ∀ ws, RngL ws → RngL (appL ws l) := by
 induction l with
 | nil => intro ws h; exact h
 | cons x l ih =>
  intro ws h
  refine ih (fun y hy => hl y (List.mem_cons_of_mem _ hy)) _ fun j => ?_
  have hx := hl x (List.mem_cons_self ..)
  have hj := h j
  simp only [List.getD_eq_getElem?_getD, List.getElem?_set] at hj ⊢
  split
  ·split
   ·exact hx
   ·exact ⟨by decide, by decide⟩
  ·exact hj
theorem contS_rng {A : Dv} (h : WF A) (hp : RngL A.per) (f : Nat → Nat) : RngL (contS A f) := by
 intro j
 have h6 := h.n6
 rcases Nat.lt_or_ge j (8 * A.n) with hj | hj
 ·rw [contS_get _ _ _ hj]
  exact appL_rng _ (fun x hx => (h.hist _ (by omega) x (List.mem_of_mem_take hx)).2) _ hp j
 ·rw [List.getD_eq_getElem?_getD, List.getElem?_eq_none (by rw [contS_len]; exact hj)]; exact ⟨by decide, by decide⟩
def kC (A : Dv) (ks : List Nat) (r : Nat) : Nat := if A.hist r = [] then 0 else ks.getD (dirL A r).length 0
def oL (ws : List Int) (N : Nat) : List PV := (List.range N).map fun j => .v (.int .u8 (byW ws j))
theorem oL_len (ws : List Int) (N : Nat) : (oL ws N).length = N := by simp [oL]
theorem oL_s (ws : List Int) (N : Nat) : oL ws (N + 1) = oL ws N ++ [.v (.int .u8 (byW ws N))] := by simp [oL, List.range_succ]
theorem oL_by (ws : List Int) (N : Nat) : oL ws N = byL ws N N := by
 unfold oL byL
 refine List.map_congr_left fun j hj => ?_
 rw [if_pos (List.mem_range.1 hj)]
theorem byW_256 (ws : List Int) {i m b : Nat} (hb : b < 8) : byW ws (64 * i + 8 * m + b) = IntKind.u8.wrap (ws.getD (8 * i + m) 0 / 256 ^ b) := by
 unfold byW
 rw [show (64 * i + 8 * m + b) / 8 = 8 * i + m by omega, show (64 * i + 8 * m + b) % 8 * 8 = b * 8 by omega]
 rcases lt8 hb with rfl | rfl | rfl | rfl | rfl | rfl | rfl | rfl <;> rfl
theorem q256 {W : Int} (h : 0 ≤ W ∧ W ≤ 18446744073709551615) {b : Nat} (hb : b < 8) : IntKind.u64.wrap ((W / 256 ^ b).tdiv 256) = W / 256 ^ (b + 1) := by
 rcases lt8 hb with rfl | rfl | rfl | rfl | rfl | rfl | rfl | rfl
 all_goals
  simp only [Int.reducePow, Nat.reduceAdd]
  rw [Int.tdiv_eq_ediv_of_nonneg (by omega), IntKind.wrap_u64]
  omega
theorem rCont (A : Dv) (M : MT) (h : WF A) (hp : RngL A.per) (ks : List Nat) (hks : ks.length ≤ 1000000) (hk : ∀ r, r < A.n → kC A ks r ≤ (A.hist r).length) : ACalls Tryz.prog 54 [.loc 0 0, .p (.view 1 (ks.map eNd))] [rdO A M 1, rlO A] (.p (.view 1 (oL (contS A (kC A ks)) (64 * A.n)))) [rdO A M 1, rlO A] := by
 refine yA (E := E) (fn := Tryz.f54) 57 [.tmp 4] rfl rfl rfl rfl (by decide) rfl rfl ?_
 have h6 := h.n6
 have hrg := contS_rng h hp (kC A ks)
 obtain ⟨ws, hws⟩ : ∃ ws, ws = contS A (kC A ks) := ⟨_, rfl⟩
 rw [← hws]
 rw [← hws] at hrg
 repeat' (first
  | (with_reducible first | apply zY | apply zT | apply zM | apply zN | apply zO | refine chk_ok (by kernel_rfl) ?_)
  | ((with_reducible first | apply zP | apply zQ | apply zR | apply zL) <;> intro h)
  | ((with_reducible show False); omega)
  | ((first | (with_reducible first | apply zW | apply zV | apply zU | apply zS | apply zX | show VX _ _ _ _ _ _ _ | show vstep _ _ _ _ _ | show vskip _ _ _ | show withV _ _) | ((with_reducible show endA _ _ _ _ _ _ _); simp -implicitDefEqProofs only [endA]) | (with_reducible first | refine zB default (by first | omega | (simp only [LN]; omega)) (by first | omega | (simp only [LN]; omega)) ?_ | refine zC default (by first | omega | (simp only [LN]; omega)) ?_ | refine And.intro (by first | decide | omega | assumption | (simp only [LN]; omega)) ?_) | ((with_reducible show pickE _ _ _); first | refine zA _ ⟨by omega, by rfl⟩ ?_ | refine zA _ (by rfl) ?_) | fail); try simp -dsimp -implicitDefEqProofs (maxSteps := 1000000) (disch := first | omega | (simp only [LN]; omega)) only [go_sem])
  | fail)
 refine r_loopA (α := Nat) [1, 17, 18] (fun i b => [(5, .sl b 1 0 (64 * i)), (6, aI (dirL A i).length), (19, aI i)]) (fun i b => []) (fun i => [.arr 1 (oL ws (64 * i))]) (fun i => i ≤ A.n) (fun i => A.n - i) (0) ?h0_1 ?hs0_1 ?I_1 ?hI_1 ?round_1
 case hI_1 => intro x; (simp -dsimp -implicitDefEqProofs (maxSteps := 1000000) (disch := first | omega | (simp only [LN]; omega)) only [go_sem]) <;> exact rfl
 case hs0_1 => refine wk_auto ?_; (simp -dsimp -implicitDefEqProofs (maxSteps := 1000000) (disch := first | omega | (simp only [LN, show dirL A 0 = [] from rfl, show oL ws (64 * 0) = [] from rfl]; omega)) only [go_sem, show dirL A 0 = [] from rfl, show oL ws (64 * 0) = [] from rfl]) <;> (try omega)
 case h0_1 => exact Nat.zero_le _
 case round_1 =>
  intro i h1
  have hl := dirL_len A i
  have hs := dirL_s A i
  have ol := oL_len ws
  by_cases hi : i < A.n
  ·have hg := lns_get A hi
   have kw := rWords A h i (kC A ks i) hi (hk i hi)
   have hcw : ∀ m, m < 8 → (appL A.per ((A.hist i).take (kC A ks i))).getD (8 * i + m) 0 = ws.getD (8 * i + m) 0 := by
    intro m hm
    rw [hws, contS_get _ _ _ (by omega), show (8 * i + m) / 8 = i by omega]
   have w3 : IntKind.i64.wrap (((dirL A i).length : Int) + 1) = (((dirL A i).length + 1 : Nat) : Int) := by rw [IntKind.wrap_i64]; push_cast; omega
   have hcase : ((A.hist i).length = 0 ∧ kC A ks i = 0 ∧ (dirL A (i + 1)).length = (dirL A i).length) ∨ (0 < (A.hist i).length ∧ (dirL A i).length < ks.length ∧ ks.getD (dirL A i).length default = kC A ks i ∧ (dirL A (i + 1)).length = (dirL A i).length + 1) ∨ (0 < (A.hist i).length ∧ ¬ (dirL A i).length < ks.length ∧ kC A ks i = 0 ∧ (dirL A (i + 1)).length = (dirL A i).length + 1) := by
    by_cases hd : A.hist i = []
    ·rw [if_pos hd, List.append_nil] at hs
     exact .inl ⟨by rw [hd]; rfl, if_pos hd, by rw [hs]⟩
    ·have h0 : 0 < (A.hist i).length := List.length_pos_iff.2 hd
     rw [if_neg hd] at hs
     have e : kC A ks i = ks.getD (dirL A i).length 0 := if_neg hd
     by_cases hlt : (dirL A i).length < ks.length
     ·exact .inr (.inl ⟨h0, hlt, e.symm, by rw [hs]; simp⟩)
     ·exact .inr (.inr ⟨h0, hlt, by rw [e, List.getD_eq_getElem?_getD, List.getElem?_eq_none (by omega)]; rfl, by rw [hs]; simp⟩)
   have hw : ∀ j, j < 8 → wA (appL A.per ((A.hist i).take (kC A ks i))) i j = wA ws i j := fun j hj => by unfold wA; rw [hcw j hj]
   rw [hw 0 (by decide), hw 1 (by decide), hw 2 (by decide), hw 3 (by decide), hw 4 (by decide), hw 5 (by decide), hw 6 (by decide), hw 7 (by decide)] at kw
   clear hw hcw
   generalize kC A ks i = κ at *
   have c3 : ∀ x : Nat, x = x := fun _ => rfl
   rcases hcase with ⟨c1, rfl, c4⟩ | ⟨c1, c2, c3, c4⟩ | ⟨c1, c2, rfl, c4⟩
   all_goals
    repeat' (first
     | (with_reducible first | apply zY | apply zT | apply zM | apply zN | apply zO | refine chk_ok (by kernel_rfl) ?_)
     | ((with_reducible first | apply zP | apply zQ | apply zR | apply zL) <;> intro h <;> try (exfalso; first | omega | exact h rfl | (revert h; decide) | (cases h; done)))
     | ((with_reducible show False); omega)
     | ((first | (with_reducible first | apply zW | apply zV | apply zU | apply zS | apply zX | show VX _ _ _ _ _ _ _ | show vstep _ _ _ _ _ | show vskip _ _ _ | show withV _ _) | ((with_reducible show endA _ _ _ _ _ _ _); simp -implicitDefEqProofs only [endA]) | (with_reducible first | refine zB default (by first | omega | (simp only [LN, hg, lnP, c3, w3]; omega)) (by first | omega | (simp only [LN, hg, lnP, c3, w3]; omega)) ?_ | refine zC default (by first | omega | (simp only [LN, hg, lnP, c3, w3]; omega)) ?_ | refine And.intro (by first | decide | omega | assumption | (simp only [LN, hg, lnP, c3, w3]; omega)) ?_) | ((with_reducible apply zD); (exact kw)) | ((with_reducible apply zE); (exact kw); rfl) | ((with_reducible apply zF); (exact kw)) | ((with_reducible show pickE _ _ _); first | refine zA _ ⟨by omega, by rfl⟩ ?_ | refine zA _ (by rfl) ?_) | fail); try simp -dsimp -implicitDefEqProofs (maxSteps := 1000000) (disch := first | omega | (simp only [LN, hg, lnP, c3, w3]; omega)) only [go_sem, hg, lnP, c3, w3])
     | fail)
    refine r_loopA (α := Nat) [1, 6, 17, 18, 19, 39] (fun m b => [(5, .sl b 1 0 (64 * i + 8 * m)), (40, aI m)]) (fun m b => []) (fun m => [.arr 1 (oL ws (64 * i + 8 * m))]) (fun m => m ≤ 8) (fun m => 8 - m) (0) ?_ ?_ ?_ ?_ ?_
    rotate_left 3
    ·intro x; (simp -dsimp -implicitDefEqProofs (maxSteps := 1000000) (disch := first | omega | (simp only [LN]; omega)) only [go_sem]) <;> exact rfl
    rotate_left 2
    ·refine wk_auto ?_; (simp -dsimp -implicitDefEqProofs (maxSteps := 1000000) (disch := first | omega | (simp only [LN, Nat.mul_zero, Nat.add_zero, ol]; omega)) only [go_sem, Nat.mul_zero, Nat.add_zero, ol]) <;> (try omega)
    rotate_left 1
    ·exact Nat.zero_le _
    ·intro m hm
     by_cases hm8 : m < 8
     ·have hWr := hrg (8 * i + m)
      have w4 : IntKind.i64.wrap ((m : Int) + 1) = ((m + 1 : Nat) : Int) := by rw [IntKind.wrap_i64]; push_cast; omega
      repeat' (first
       | (with_reducible first | apply zY | apply zT | apply zM | apply zN | apply zO | refine chk_ok (by kernel_rfl) ?_)
       | ((with_reducible first | apply zP | apply zQ | apply zR | apply zL) <;> intro h <;> try (exfalso; first | omega | exact h rfl | (revert h; decide) | (cases h; done)))
       | ((with_reducible show False); omega)
       | ((first | (with_reducible first | apply zW | apply zV | apply zU | apply zS | apply zX | show VX _ _ _ _ _ _ _ | show vstep _ _ _ _ _ | show vskip _ _ _ | show withV _ _) | ((with_reducible show endA _ _ _ _ _ _ _); simp -implicitDefEqProofs only [endA]) | (with_reducible first | refine zB default (by first | omega | (simp only [LN]; omega)) (by first | omega | (simp only [LN]; omega)) ?_ | refine zC default (by first | omega | (simp only [LN]; omega)) ?_ | refine And.intro (by first | decide | omega | assumption | (simp only [LN]; omega)) ?_) | ((with_reducible show pickE _ _ _); first | refine zA _ ⟨by omega, by rfl⟩ ?_ | refine zA _ (by rfl) ?_) | fail); try simp -dsimp -implicitDefEqProofs (maxSteps := 1000000) (disch := first | omega | (simp only [LN]; omega)) only [go_sem])
       | fail)
      refine ⟨.p (wA ws i m), by rcases lt8 hm8 with rfl | rfl | rfl | rfl | rfl | rfl | rfl | rfl <;> rfl, ?_⟩
      simp -dsimp -implicitDefEqProofs (maxSteps := 1000000) (disch := first | omega | (simp only [LN, wA]; omega)) only [go_sem, wA]
      have hb := fun b (hb : b < 8) => byW_256 ws (i := i) (m := m) hb
      generalize ws.getD (8 * i + m) 0 = W at *
      repeat' (first
       | (with_reducible first | apply zY | apply zT | apply zM | apply zN | apply zO | refine chk_ok (by kernel_rfl) ?_)
       | ((with_reducible first | apply zP | apply zQ | apply zR | apply zL) <;> intro h <;> try (exfalso; first | omega | exact h rfl | (revert h; decide) | (cases h; done)))
       | ((with_reducible show False); omega)
       | ((first | (with_reducible first | apply zW | apply zV | apply zU | apply zS | apply zX | show VX _ _ _ _ _ _ _ | show vstep _ _ _ _ _ | show vskip _ _ _ | show withV _ _) | ((with_reducible show endA _ _ _ _ _ _ _); simp -implicitDefEqProofs only [endA]) | (with_reducible first | refine zB default (by first | omega | (simp only [LN]; omega)) (by first | omega | (simp only [LN]; omega)) ?_ | refine zC default (by first | omega | (simp only [LN]; omega)) ?_ | refine And.intro (by first | decide | omega | assumption | (simp only [LN]; omega)) ?_) | ((with_reducible show pickE _ _ _); first | refine zA _ ⟨by omega, by rfl⟩ ?_ | refine zA _ (by rfl) ?_) | fail); try simp -dsimp -implicitDefEqProofs (maxSteps := 1000000) (disch := first | omega | (simp only [LN]; omega)) only [go_sem])
       | fail)
      refine r_loopA (α := Nat) [1, 6, 17, 18, 19, 39, 40] (fun b2 b => [(5, .sl b 1 0 (64 * i + 8 * m + b2)), (11, .p (.v (.int .u64 (W / 256 ^ b2)))), (12, aI b2)]) (fun b2 b => []) (fun b2 => [.arr 1 (oL ws (64 * i + 8 * m + b2))]) (fun b2 => b2 ≤ 8) (fun b2 => 8 - b2) (0) ?_ ?_ ?_ ?_ ?_
      rotate_left 3
      ·intro x; (simp -dsimp -implicitDefEqProofs (maxSteps := 1000000) (disch := first | omega | (simp only [LN]; omega)) only [go_sem]) <;> exact rfl
      rotate_left 2
      ·refine wk_auto ?_; (simp -dsimp -implicitDefEqProofs (maxSteps := 1000000) (disch := first | omega | (simp only [LN, Nat.add_zero, Int.pow_zero, Int.ediv_one]; omega)) only [go_sem, Nat.add_zero, Int.pow_zero, Int.ediv_one]) <;> (try omega)
      rotate_left 1
      ·exact Nat.zero_le _
      ·intro b2 hb2
       by_cases hb8 : b2 < 8
       ·have e1 := q256 hWr hb8
        have e2 := oL_s ws (64 * i + 8 * m + b2)
        rw [hb b2 hb8] at e2
        have w5 : IntKind.i64.wrap ((b2 : Int) + 1) = ((b2 + 1 : Nat) : Int) := by rw [IntKind.wrap_i64]; push_cast; omega
        have o4 := ol (64 * i + 8 * m + b2)
        repeat' (first
         | (with_reducible first | apply zY | apply zT | apply zM | apply zN | apply zO | refine chk_ok (by kernel_rfl) ?_)
         | ((with_reducible first | apply zP | apply zQ | apply zR | apply zL) <;> intro h <;> try (exfalso; first | omega | exact h rfl | (revert h; decide) | (cases h; done)))
         | ((with_reducible show False); omega)
         | ((first | (with_reducible first | apply zW | apply zV | apply zU | apply zS | apply zX | show VX _ _ _ _ _ _ _ | show vstep _ _ _ _ _ | show vskip _ _ _ | show withV _ _) | ((with_reducible show endA _ _ _ _ _ _ _); simp -implicitDefEqProofs only [endA]) | (with_reducible first | refine zB default (by first | omega | (simp only [LN, e1, w5]; omega)) (by first | omega | (simp only [LN, e1, w5]; omega)) ?_ | refine zC default (by first | omega | (simp only [LN, e1, w5]; omega)) ?_ | refine And.intro (by first | decide | omega | assumption | (simp only [LN, e1, w5]; omega)) ?_) | ((with_reducible show pickE _ _ _); first | refine zA _ ⟨by omega, by rfl⟩ ?_ | refine zA _ (by rfl) ?_) | fail); try simp -dsimp -implicitDefEqProofs (maxSteps := 1000000) (disch := first | omega | (simp only [LN, e1, w5]; omega)) only [go_sem, e1, w5])
         | fail)
        all_goals first | omega | ((refine zZ (b2 + 1) ?_ ?_ ?_; (omega); (show _ < _; omega); (simp -dsimp -implicitDefEqProofs (maxSteps := 1000000) (disch := first | omega | (simp only [LN, e1]; omega)) only [go_sem, e1]; try trivial)); exact ⟨.inl e2.symm, rfl⟩)
       ·obtain rfl : b2 = 8 := by omega
        repeat' (first
         | (with_reducible first | apply zY | apply zT | apply zM | apply zN | apply zO | refine chk_ok (by kernel_rfl) ?_)
         | ((with_reducible first | apply zP | apply zQ | apply zR | apply zL) <;> intro h <;> try (exfalso; first | omega | exact h rfl | (revert h; decide) | (cases h; done)))
         | ((with_reducible show False); omega)
         | ((first | (with_reducible first | apply zW | apply zV | apply zU | apply zS | apply zX | show VX _ _ _ _ _ _ _ | show vstep _ _ _ _ _ | show vskip _ _ _ | show withV _ _) | ((with_reducible show endA _ _ _ _ _ _ _); simp -implicitDefEqProofs only [endA]) | (with_reducible first | refine zB default (by first | omega | (simp only [LN, w4]; omega)) (by first | omega | (simp only [LN, w4]; omega)) ?_ | refine zC default (by first | omega | (simp only [LN, w4]; omega)) ?_ | refine And.intro (by first | decide | omega | assumption | (simp only [LN, w4]; omega)) ?_) | ((with_reducible show pickE _ _ _); first | refine zA _ ⟨by omega, by rfl⟩ ?_ | refine zA _ (by rfl) ?_) | fail); try simp -dsimp -implicitDefEqProofs (maxSteps := 1000000) (disch := first | omega | (simp only [LN, w4]; omega)) only [go_sem, w4])
         | fail)
        all_goals first | omega | (refine zZ (m + 1) ?_ ?_ ?_; (omega); (show _ < _; omega); (simp -dsimp -implicitDefEqProofs (maxSteps := 1000000) (disch := first | omega | (simp only [LN, Nat.mul_add, Nat.mul_one, Nat.add_assoc]; omega)) only [go_sem, Nat.mul_add, Nat.mul_one, Nat.add_assoc]; try trivial))
     ·obtain rfl : m = 8 := by omega
      repeat' (first
       | (with_reducible first | apply zY | apply zT | apply zM | apply zN | apply zO | refine chk_ok (by kernel_rfl) ?_)
       | ((with_reducible first | apply zP | apply zQ | apply zR | apply zL) <;> intro h <;> try (exfalso; first | omega | exact h rfl | (revert h; decide) | (cases h; done)))
       | ((with_reducible show False); omega)
       | ((first | (with_reducible first | apply zW | apply zV | apply zU | apply zS | apply zX | show VX _ _ _ _ _ _ _ | show vstep _ _ _ _ _ | show vskip _ _ _ | show withV _ _) | ((with_reducible show endA _ _ _ _ _ _ _); simp -implicitDefEqProofs only [endA]) | (with_reducible first | refine zB default (by first | omega | (simp only [LN]; omega)) (by first | omega | (simp only [LN]; omega)) ?_ | refine zC default (by first | omega | (simp only [LN]; omega)) ?_ | refine And.intro (by first | decide | omega | assumption | (simp only [LN]; omega)) ?_) | ((with_reducible show pickE _ _ _); first | refine zA _ ⟨by omega, by rfl⟩ ?_ | refine zA _ (by rfl) ?_) | fail); try simp -dsimp -implicitDefEqProofs (maxSteps := 1000000) (disch := first | omega | (simp only [LN]; omega)) only [go_sem])
       | fail)
      all_goals first | omega | (refine zZ (i + 1) ?_ ?_ ?_; (omega); (show _ < _; omega); (simp -dsimp -implicitDefEqProofs (maxSteps := 1000000) (disch := first | omega | (simp only [LN, Nat.mul_add, Nat.mul_one, Nat.reduceMul, c4]; omega)) only [go_sem, Nat.mul_add, Nat.mul_one, Nat.reduceMul, c4]; try trivial))
  ·obtain rfl : i = A.n := by omega
   have o1 : min (64 * A.n) (oL ws (64 * A.n)).length = 64 * A.n := by rw [ol]; exact Nat.min_self _
   have o3 := ol (64 * A.n)
   have o2 : List.take (64 * A.n) (oL ws (64 * A.n)) = oL ws (64 * A.n) := List.take_of_length_le (by rw [ol]; exact Nat.le_refl _)
   repeat' (first
    | (with_reducible first | apply zY | apply zT | apply zM | apply zN | apply zO | refine chk_ok (by kernel_rfl) ?_)
    | ((with_reducible first | apply zP | apply zQ | apply zR | apply zL) <;> intro h <;> try (exfalso; first | omega | exact h rfl | (revert h; decide) | (cases h; done)))
    | ((with_reducible show False); omega)
    | ((first | (with_reducible first | apply zW | apply zV | apply zU | apply zS | apply zX | show VX _ _ _ _ _ _ _ | show vstep _ _ _ _ _ | show vskip _ _ _ | show withV _ _) | ((with_reducible show endA _ _ _ _ _ _ _); simp -implicitDefEqProofs only [endA]) | (with_reducible first | refine zB default (by first | omega | (simp only [LN, o1, o2, o3]; omega)) (by first | omega | (simp only [LN, o1, o2, o3]; omega)) ?_ | refine zC default (by first | omega | (simp only [LN, o1, o2, o3]; omega)) ?_ | refine And.intro (by first | decide | omega | assumption | (simp only [LN, o1, o2, o3]; omega)) ?_) | ((with_reducible show pickE _ _ _); first | refine zA _ ⟨by omega, by rfl⟩ ?_ | refine zA _ (by rfl) ?_) | fail); try simp -dsimp -implicitDefEqProofs (maxSteps := 1000000) (disch := first | omega | (simp only [LN, o1, o2, o3]; omega)) only [go_sem, o1, o2, o3])
    | fail)
   all_goals first | omega | rfl
end Go.Proofs.YtckhjklcfagkoaaGreatDoor
namespace Go.Proofs.YtckhjklcfagkoaaGreatDoor
open Go Go.Ab
attribute [local irreducible] callK callF loopQ vstep vskip pickE hideP
set_option maxRecDepth 100000
attribute [local go_sem] eU eC deO peO cuO liO thO hiO noO
def bytU (l : List UInt8) (o k : Nat) : Nat := (l.getD (o + k) 0).toNat
def wrdU (l : List UInt8) (o : Nat) : Nat → Nat
 | 0 => 0
 | k + 1 => wrdU l o k + bytU l o k * 256 ^ k
theorem bytU_lt (l : List UInt8) (o k : Nat) : bytU l o k < 256 := by unfold bytU; exact UInt8.toNat_lt _
theorem wrdU_lt (l : List UInt8) (o : Nat) : ∀ k, wrdU l o k < 256 ^ k
 | 0 => by simp [wrdU]
 | k + 1 => by
  have h1 := wrdU_lt l o k
  have h2 := bytU_lt l o k
  have h3 : bytU l o k * 256 ^ k ≤ 255 * 256 ^ k := Nat.mul_le_mul_right _ (by omega)
  rw [wrdU, Nat.pow_succ]; omega
theorem borU_add (a b : Int) (i : Nat) (ha0 : 0 ≤ a) (ha : a < 2 ^ i) (hb : 0 ≤ b) (hab : a + b * 2 ^ i < 18446744073709551616) :
  ((BitVec.ofInt 64 a ||| BitVec.ofInt 64 (b * 2 ^ i)).toNat : Int) = a + b * 2 ^ i := by
 obtain ⟨m, rfl⟩ := Int.eq_ofNat_of_zero_le ha0
 obtain ⟨n, rfl⟩ := Int.eq_ofNat_of_zero_le hb
 have e : ((n : Int) * 2 ^ i) = ((n * 2 ^ i : Nat) : Int) := by simp
 rw [e] at hab ⊢
 have hm : m < 2 ^ i := by exact_mod_cast ha
 have hs : m + n * 2 ^ i < 2 ^ 64 := by omega
 rw [BitVec.toNat_or, BitVec.ofInt_natCast, BitVec.ofInt_natCast, BitVec.toNat_ofNat, BitVec.toNat_ofNat, Nat.mod_eq_of_lt (by omega), Nat.mod_eq_of_lt (by omega)]
 have := Nat.shiftLeft_add_eq_or_of_lt hm n
 rw [Nat.shiftLeft_eq] at this
 rw [Nat.or_comm, ← this]
 push_cast; omega
theorem pow8U (k : Nat) : (2 : Int) ^ (8 * k) = ((256 ^ k : Nat) : Int) := by rw [Int.pow_mul, Int.natCast_pow]; rfl
theorem wrd_core (a b q i : Nat) (hq : (2 : Int) ^ i = (q : Int)) (h1 : b < 256) (h2 : a < q) (h3 : a + b * q < 18446744073709551616) :
  IntKind.u64.wrap ((BitVec.ofInt 64 (a : Int) ||| BitVec.ofInt 64 (IntKind.u64.wrap (IntKind.u64.wrap (b : Int) * 2 ^ i))).toNat : Int) = ((a + b * q : Nat) : Int) := by
 have e1 : IntKind.u64.wrap (b : Int) = b := by rw [IntKind.wrap_u64]; omega
 have e2 : (b : Int) * 2 ^ i = ((b * q : Nat) : Int) := by rw [hq, Int.natCast_mul]
 have e3 : IntKind.u64.wrap ((b : Int) * 2 ^ i) = (b : Int) * 2 ^ i := by rw [e2, IntKind.wrap_u64]; omega
 have e4 := borU_add a b i (by omega) (by rw [hq]; omega) (by omega) (by rw [e2]; omega)
 rw [e1, e3, e4, e2, IntKind.wrap_u64]
 omega
def fW (p : List UInt8) (m i : Nat) : List Int := (List.range m).map fun j => ((wrdU p (8 * j) (min 8 (i - 8 * j)) : Nat) : Int)
theorem fW_len (p : List UInt8) (m i : Nat) : (fW p m i).length = m := by simp [fW]
theorem fW_0 (p : List UInt8) (m : Nat) : List.replicate m (PV.v (.int .u64 0)) = (fW p m 0).map eU := by
 unfold fW
 apply List.ext_getElem (by simp)
 intro i h1 h2
 simp [wrdU, eU]
theorem fW_get (p : List UInt8) (m i j : Nat) (hj : j < m) (d : Int) : (fW p m i).getD j d = ((wrdU p (8 * j) (min 8 (i - 8 * j)) : Nat) : Int) := by
 unfold fW; simp [List.getD_eq_getElem?_getD, hj]
theorem fW_s (p : List UInt8) (m i : Nat) (hi : i < 8 * m) (x : Int) (hx : x = ((wrdU p (8 * (i / 8)) (i % 8 + 1) : Nat) : Int)) : ((fW p m i).map eU).set (i / 8) (.v (.int .u64 x)) = (fW p m (i + 1)).map eU := by
 subst hx
 unfold fW
 apply List.ext_getElem (by simp)
 intro j h1 h2
 rw [List.getElem_set]
 simp only [List.getElem_map, List.getElem_range, eU]
 by_cases e : i / 8 = j
 ·subst e; rw [if_pos rfl, show min 8 (i + 1 - 8 * (i / 8)) = i % 8 + 1 by omega]
 ·rw [if_neg e]
  by_cases h : j < i / 8
  ·rw [show min 8 (i - 8 * j) = 8 by omega, show min 8 (i + 1 - 8 * j) = 8 by omega]
  ·rw [show min 8 (i - 8 * j) = 0 by omega, show min 8 (i + 1 - 8 * j) = 0 by omega]
end Go.Proofs.YtckhjklcfagkoaaGreatDoor
