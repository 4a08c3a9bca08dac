/- Contracts of functions of this program, and the plain facts that they rest on. No conditions. -/
import Derived.Test.YtckhjklcfagkoaaGreatDoorJScIQ
import Derived.Test.YtckhjklcfagkoaaGreatDoorShelfQ
import Derived.Test.YtckhjklcfagkoaaGreatDoorAc4
import Derived.Lib.Walk
import Derived.WalkKit
import Derived.BigCall
import Derived.BigGuard
import Derived.Test.YtckhjklcfagkoaaGreatDoorJRvT2Q
set_option linter.unusedSimpArgs false
set_option linter.unusedVariables false
namespace Go.Proofs.YtckhjklcfagkoaaGreatDoor
set_option maxHeartbeats 4000000
set_option maxRecDepth 100000
open Go Go.Ab
attribute [local irreducible] callK callF loopQ vstep vskip pickE hideP
open Go.RowKit
attribute [local go_sem] eE rE
def plE (x : Ev) : Ev := { x with k := x.k % 256, ch := if 600 < x.ch.length then x.ch.take 600 else x.ch }
theorem plE_rng {x : Ev} (R : Rng x) : Rng (plE x) := ⟨R.th, R.o, R.v, R.w, R.ln, R.n⟩
theorem plE_k (x : Ev) : 0 ≤ (plE x).k ∧ (plE x).k ≤ 255 := by show 0 ≤ x.k % 256 ∧ x.k % 256 ≤ 255; omega
theorem plE_ch (x : Ev) : (plE x).ch.length ≤ 600 := by
 show (if 600 < x.ch.length then x.ch.take 600 else x.ch).length ≤ 600
 split
 ·simp; omega
 ·omega
theorem tmod_rng (k : Int) : -255 ≤ k.tmod 256 ∧ k.tmod 256 ≤ 255 ∧ (k.tmod 256 + 256).tmod 256 = k % 256 := by
 have h1 : -255 ≤ k.tmod 256 ∧ k.tmod 256 ≤ 255 := by
  have := Int.tmod_lt_of_pos k (show (0 : Int) < 256 by decide)
  have h2 := Int.lt_tmod_of_pos k (show (0 : Int) < 256 by decide)
  omega
 refine ⟨h1.1, h1.2, ?_⟩
 rw [Int.tmod_eq_emod_of_nonneg (by omega)]
 have e := Int.tmod_eq_emod (a := k) (b := 256)
 split at e <;> omega
theorem bPlain (x : Ev) (hc : x.ch.length ≤ 140737488355328) : PCalls Tryz.prog 32 [rE x] (rE (plE x)) := by
 refine yB (E := E) (fn := Tryz.f32) 18 [.cell 2 35] rfl rfl rfl rfl (by decide) rfl ?_
 obtain ⟨h1, h2, h3⟩ := tmod_rng x.k
 have e1 : IntKind.i64.wrap (x.k.tmod 256 + 256) = x.k.tmod 256 + 256 := i64w (by omega) (by omega)
 have e2 : IntKind.i64.wrap (256 + x.k.tmod 256) = x.k.tmod 256 + 256 := by rw [Int.add_comm]; exact e1
 have e3 : 256 + x.k.tmod 256 = x.k.tmod 256 + 256 := Int.add_comm _ _
 by_cases hl : 600 < x.ch.length
 ·have ep : plE x = { x with k := x.k % 256, ch := x.ch.take 600 } := by unfold plE; rw [if_pos hl]
  rw [ep]
  repeat' (first
   | (with_reducible first | apply zY | apply zT | apply zM | apply zN | apply zO | refine chk_ok (by kernel_rfl) ?_)
   | ((with_reducible first | apply zP | apply zQ | apply zR | apply zL) <;> intro h <;> try (exfalso; first | omega | exact h rfl | (revert h; decide) | (cases h; done)))
   | ((with_reducible show False); omega)
   | ((first | (with_reducible first | apply zW | apply zV | apply zU | apply zS | apply zX | show VX _ _ _ _ _ _ _ | show vstep _ _ _ _ _ | show vskip _ _ _ | show withV _ _) | ((with_reducible show endA _ _ _ _ _ _ _); simp -implicitDefEqProofs only [endA]) | (with_reducible first | refine zB default (by first | omega | (simp only [LN, e1, e2, e3, h3]; omega)) (by first | omega | (simp only [LN, e1, e2, e3, h3]; omega)) ?_ | refine zC default (by first | omega | (simp only [LN, e1, e2, e3, h3]; omega)) ?_ | refine And.intro (by first | decide | omega | assumption | (simp only [LN, e1, e2, e3, h3]; omega)) ?_) | ((with_reducible show pickE _ _ _); first | refine zA _ ⟨by omega, by rfl⟩ ?_ | refine zA _ (by rfl) ?_) | fail); try simp -dsimp -implicitDefEqProofs (maxSteps := 1000000) (disch := first | omega | (simp only [LN, e1, e2, e3, h3]; omega)) only [go_sem, e1, e2, e3, h3])
   | fail)
  all_goals first | omega | (simp; done)
 ·have ep : plE x = { x with k := x.k % 256 } := by unfold plE; rw [if_neg hl]
  rw [ep]
  repeat' (first
   | (with_reducible first | apply zY | apply zT | apply zM | apply zN | apply zO | refine chk_ok (by kernel_rfl) ?_)
   | ((with_reducible first | apply zP | apply zQ | apply zR | apply zL) <;> intro h <;> try (exfalso; first | omega | exact h rfl | (revert h; decide) | (cases h; done)))
   | ((with_reducible show False); omega)
   | ((first | (with_reducible first | apply zW | apply zV | apply zU | apply zS | apply zX | show VX _ _ _ _ _ _ _ | show vstep _ _ _ _ _ | show vskip _ _ _ | show withV _ _) | ((with_reducible show endA _ _ _ _ _ _ _); simp -implicitDefEqProofs only [endA]) | (with_reducible first | refine zB default (by first | omega | (simp only [LN, e1, e2, e3, h3]; omega)) (by first | omega | (simp only [LN, e1, e2, e3, h3]; omega)) ?_ | refine zC default (by first | omega | (simp only [LN, e1, e2, e3, h3]; omega)) ?_ | refine And.intro (by first | decide | omega | assumption | (simp only [LN, e1, e2, e3, h3]; omega)) ?_) | ((with_reducible show pickE _ _ _); first | refine zA _ ⟨by omega, by rfl⟩ ?_ | refine zA _ (by rfl) ?_) | fail); try simp -dsimp -implicitDefEqProofs (maxSteps := 1000000) (disch := first | omega | (simp only [LN, e1, e2, e3, h3]; omega)) only [go_sem, e1, e2, e3, h3])
   | fail)
  all_goals first | omega | (simp; done)
theorem bOwn (x : Ev) (hk : 0 ≤ x.k ∧ x.k ≤ 255) (hc : x.ch.length ≤ 1000000) : PCalls Tryz.prog 12 [rE x] (eE x) := by
 refine yB (E := E) (fn := Tryz.f12) 23 [.cell 2 41] rfl rfl rfl rfl (by decide) rfl ?_
 have e1 : IntKind.u8.wrap x.k = x.k := by rw [wr8]; omega
 repeat' (first
  | (with_reducible first | apply zY | apply zT | apply zM | apply zN | apply zO | refine chk_ok (by kernel_rfl) ?_)
  | ((with_reducible first | apply zP | apply zQ | apply zR | apply zL) <;> intro h <;> try (exfalso; first | omega | exact h rfl | (revert h; decide) | (cases h; done)))
  | ((with_reducible show False); omega)
  | ((first | (with_reducible first | apply zW | apply zV | apply zU | apply zS | apply zX | show VX _ _ _ _ _ _ _ | show vstep _ _ _ _ _ | show vskip _ _ _ | show withV _ _) | ((with_reducible show endA _ _ _ _ _ _ _); simp -implicitDefEqProofs only [endA]) | (with_reducible first | refine zB default (by first | omega | (simp only [LN, e1]; omega)) (by first | omega | (simp only [LN, e1]; omega)) ?_ | refine zC default (by first | omega | (simp only [LN, e1]; omega)) ?_ | refine And.intro (by first | decide | omega | assumption | (simp only [LN, e1]; omega)) ?_) | ((with_reducible show pickE _ _ _); first | refine zA _ ⟨by omega, by rfl⟩ ?_ | refine zA _ (by rfl) ?_) | fail); try simp -dsimp -implicitDefEqProofs (maxSteps := 1000000) (disch := first | omega | (simp only [LN, e1]; omega)) only [go_sem, e1])
  | fail)
 all_goals first | omega | (simp; done)
end Go.Proofs.YtckhjklcfagkoaaGreatDoor
namespace Go.Ab
open Go.RowKit Go.Shelf Go.Lib Go.Proofs
end Go.Ab
namespace Go.Proofs.YtckhjklcfagkoaaGreatDoor
set_option maxHeartbeats 4000000
set_option maxRecDepth 100000
open Go Go.Ab
attribute [local irreducible] callK callF loopQ vstep vskip pickE hideP
open Go.RowKit
attribute [local go_sem] eE rE eT bs_inj ext_bs byteAt_bs
def fewE (l : List Ev) (n : Nat) : List Ev := (l.take n).map plE
theorem getD_in {l : List Ev} {i : Nat} (h : i < l.length) : l.getD i default ∈ l := by
 rw [List.getD_eq_getElem?_getD, List.getElem?_eq_getElem h]; exact List.getElem_mem h
theorem map_take2 {β : Type} {f : Ev → β} {l : List Ev} {i : Nat} (h : i < l.length) : (l.take (i + 1)).map f = (l.take i).map f ++ [f (l.getD i default)] := by
 rw [yE default h, List.map_append]; rfl
theorem bFew (l : List Ev) (n : Nat) (hn : n ≤ 1000) (hc : ∀ x, x ∈ l → x.ch.length ≤ 140737488355328) : PCalls Tryz.prog 10 [.view 8 (l.map rE), .v (.int .i64 n)] (.view 8 ((fewE l n).map rE)) := by
 refine yD ⟨_, rfl, rfl, by decide⟩ fun hf => ?_
 simp only [go_sem, big] at hf
 refine yB (E := E) (fn := Tryz.f10) 28 [.tmp 4] rfl rfl rfl rfl (by decide) rfl ?_
 repeat' (first
  | (with_reducible first | apply zY | apply zT | apply zM | apply zN | apply zO | refine chk_ok (by kernel_rfl) ?_)
  | ((with_reducible first | apply zP | apply zQ | apply zR | apply zL) <;> intro h)
  | ((with_reducible show False); omega)
  | ((first | (with_reducible first | apply zW | apply zV | apply zU | apply zS | apply zX | show VX _ _ _ _ _ _ _ | show vstep _ _ _ _ _ | show vskip _ _ _ | show withV _ _) | ((with_reducible show endA _ _ _ _ _ _ _); simp -implicitDefEqProofs only [endA]) | (with_reducible first | refine zB default (by first | omega | (simp only [LN]; omega)) (by first | omega | (simp only [LN]; omega)) ?_ | refine zC default (by first | omega | (simp only [LN]; omega)) ?_ | refine And.intro (by first | decide | omega | assumption | (simp only [LN]; omega)) ?_) | ((with_reducible show pickE _ _ _); first | refine zA _ ⟨by omega, by rfl⟩ ?_ | refine zA _ (by rfl) ?_) | fail); try simp -dsimp -implicitDefEqProofs (maxSteps := 1000000) (disch := first | omega | (simp only [LN]; omega)) only [go_sem])
  | fail)
 refine r_loopA (α := Nat) [0, 1] (fun i b => [(5, .sl b 8 0 i), (6, aI i)]) (fun i b => []) (fun i => [.arr 8 ((fewE l i).map rE)]) (fun i => i ≤ l.length ∧ i ≤ n) (fun i => n - i) (0) ?h0_1 ?hs0_1 ?I_1 ?hI_1 ?round_1
 case hI_1 => intro x; (simp -dsimp -implicitDefEqProofs (maxSteps := 1000000) (disch := first | omega | (simp only [LN]; omega)) only [go_sem]) <;> exact rfl
 case hs0_1 => refine wk_auto ?_; (simp -dsimp -implicitDefEqProofs (maxSteps := 1000000) (disch := first | omega | (simp only [LN, fewE, List.take_zero, List.map_nil]; omega)) only [go_sem, fewE, List.take_zero, List.map_nil]) <;> (try omega)
 case h0_1 => exact ⟨Nat.zero_le _, Nat.zero_le _⟩
 case round_1 =>
  rintro i ⟨h1, h2⟩
  have hlen : (fewE l i).length = i := by unfold fewE; rw [List.length_map, List.length_take]; omega
  by_cases h : i < l.length ∧ i < n
  ·obtain ⟨h3, h4⟩ := h
   have kp := bPlain (l.getD i default) (hc _ (getD_in h3))
   have hs : (fewE l (i + 1)).map rE = (fewE l i).map rE ++ [rE (plE (l.getD i default))] := by unfold fewE; rw [map_take2 h3, List.map_append]; rfl
   generalize hxx : l.getD i default = x at *
   repeat' (first
    | (with_reducible first | apply zY | apply zT | apply zM | apply zN | apply zO | refine chk_ok (by kernel_rfl) ?_)
    | ((with_reducible first | apply zP | apply zQ | apply zR | apply zL) <;> intro h <;> try (exfalso; first | omega | exact h rfl | (revert h; decide) | (cases h; done)))
    | ((with_reducible show False); omega)
    | ((first | (with_reducible first | apply zW | apply zV | apply zU | apply zS | apply zX | show VX _ _ _ _ _ _ _ | show vstep _ _ _ _ _ | show vskip _ _ _ | show withV _ _) | ((with_reducible show endA _ _ _ _ _ _ _); simp -implicitDefEqProofs only [endA]) | (with_reducible first | refine zB default (by first | omega | (simp only [LN, hxx, hlen]; omega)) (by first | omega | (simp only [LN, hxx, hlen]; omega)) ?_ | refine zC default (by first | omega | (simp only [LN, hxx, hlen]; omega)) ?_ | refine And.intro (by first | decide | omega | assumption | (simp only [LN, hxx, hlen]; omega)) ?_) | ((with_reducible apply zD); (exact kp)) | ((with_reducible apply zE); (exact kp); rfl) | ((with_reducible apply zF); (exact kp)) | ((with_reducible show pickE _ _ _); first | refine zA _ ⟨by omega, by rfl⟩ ?_ | refine zA _ (by rfl) ?_) | fail); try simp -dsimp -implicitDefEqProofs (maxSteps := 1000000) (disch := first | omega | (simp only [LN, hxx, hlen]; omega)) only [go_sem, hxx, hlen])
    | fail)
   all_goals first | omega | (refine zZ (i + 1) ?_ ?_ ?_; (omega); (show _ < _; omega); (simp -dsimp -implicitDefEqProofs (maxSteps := 1000000) (disch := first | omega | (simp only [LN, hs]; omega)) only [go_sem, hs]; try trivial))
  ·have he : fewE l i = fewE l n := by
    unfold fewE
    by_cases h5 : i < n
    ·rw [show i = l.length by omega, List.take_length, List.take_of_length_le (by omega)]
    ·rw [show i = n by omega]
   have ht : List.take i ((fewE l n).map rE) = (fewE l n).map rE := List.take_of_length_le (by rw [List.length_map, ← he, hlen]; omega)
   repeat' (first
    | (with_reducible first | apply zY | apply zT | apply zM | apply zN | apply zO | refine chk_ok (by kernel_rfl) ?_)
    | ((with_reducible first | apply zP | apply zQ | apply zR | apply zL) <;> intro h <;> try (exfalso; first | omega | exact h rfl | (revert h; decide) | (cases h; done)))
    | ((with_reducible show False); omega)
    | ((first | (with_reducible first | apply zW | apply zV | apply zU | apply zS | apply zX | show VX _ _ _ _ _ _ _ | show vstep _ _ _ _ _ | show vskip _ _ _ | show withV _ _) | ((with_reducible show endA _ _ _ _ _ _ _); simp -implicitDefEqProofs only [endA]) | (with_reducible first | refine zB default (by first | omega | (simp only [LN, he, ht]; omega)) (by first | omega | (simp only [LN, he, ht]; omega)) ?_ | refine zC default (by first | omega | (simp only [LN, he, ht]; omega)) ?_ | refine And.intro (by first | decide | omega | assumption | (simp only [LN, he, ht]; omega)) ?_) | ((with_reducible show pickE _ _ _); first | refine zA _ ⟨by omega, by rfl⟩ ?_ | refine zA _ (by rfl) ?_) | fail); try simp -dsimp -implicitDefEqProofs (maxSteps := 1000000) (disch := first | omega | (simp only [LN, he, ht]; omega)) only [go_sem, he, ht])
    | fail)
   all_goals first | omega | rfl | (rw [← he]; exact hlen)
theorem bOwnL (l : List Ev) (hn : l.length ≤ 1000) (hk : ∀ x, x ∈ l → (0 ≤ x.k ∧ x.k ≤ 255) ∧ x.ch.length ≤ 1000000) : PCalls Tryz.prog 17 [.view 8 (l.map rE)] (.view 8 (l.map eE)) := by
 refine yD ⟨_, rfl, rfl, by decide⟩ fun hf => ?_
 simp only [go_sem, big] at hf
 refine yB (E := E) (fn := Tryz.f17) 19 [.tmp 2] rfl rfl rfl rfl (by decide) rfl ?_
 repeat' (first
  | (with_reducible first | apply zY | apply zT | apply zM | apply zN | apply zO | refine chk_ok (by kernel_rfl) ?_)
  | ((with_reducible first | apply zP | apply zQ | apply zR | apply zL) <;> intro h)
  | ((with_reducible show False); omega)
  | ((first | (with_reducible first | apply zW | apply zV | apply zU | apply zS | apply zX | show VX _ _ _ _ _ _ _ | show vstep _ _ _ _ _ | show vskip _ _ _ | show withV _ _) | ((with_reducible show endA _ _ _ _ _ _ _); simp -implicitDefEqProofs only [endA]) | (with_reducible first | refine zB default (by first | omega | (simp only [LN]; omega)) (by first | omega | (simp only [LN]; omega)) ?_ | refine zC default (by first | omega | (simp only [LN]; omega)) ?_ | refine And.intro (by first | decide | omega | assumption | (simp only [LN]; omega)) ?_) | ((with_reducible show pickE _ _ _); first | refine zA _ ⟨by omega, by rfl⟩ ?_ | refine zA _ (by rfl) ?_) | fail); try simp -dsimp -implicitDefEqProofs (maxSteps := 1000000) (disch := first | omega | (simp only [LN]; omega)) only [go_sem])
  | fail)
 refine r_loopA (α := Nat) [6, 7] (fun i b => [(3, .sl b 8 0 i), (8, aI i)]) (fun i b => []) (fun i => [.arr 8 ((l.take i).map eE)]) (fun i => i ≤ l.length) (fun i => l.length - i) (0) ?h0_2 ?hs0_2 ?I_2 ?hI_2 ?round_2
 case hI_2 => intro x; (simp -dsimp -implicitDefEqProofs (maxSteps := 1000000) (disch := first | omega | (simp only [LN]; omega)) only [go_sem]) <;> exact rfl
 case hs0_2 => refine wk_auto ?_; (simp -dsimp -implicitDefEqProofs (maxSteps := 1000000) (disch := first | omega | (simp only [LN, List.take_zero, List.map_nil]; omega)) only [go_sem, List.take_zero, List.map_nil]) <;> (try omega)
 case h0_2 => exact Nat.zero_le _
 case round_2 =>
  intro i h1
  by_cases h3 : i < l.length
  ·obtain ⟨g1, g2⟩ := hk _ (getD_in h3)
   have kp := bOwn (l.getD i default) g1 g2
   have hs := map_take2 (f := eE) h3
   generalize hxx : l.getD i default = x at *
   repeat' (first
    | (with_reducible first | apply zY | apply zT | apply zM | apply zN | apply zO | refine chk_ok (by kernel_rfl) ?_)
    | ((with_reducible first | apply zP | apply zQ | apply zR | apply zL) <;> intro h <;> try (exfalso; first | omega | exact h rfl | (revert h; decide) | (cases h; done)))
    | ((with_reducible show False); omega)
    | ((first | (with_reducible first | apply zW | apply zV | apply zU | apply zS | apply zX | show VX _ _ _ _ _ _ _ | show vstep _ _ _ _ _ | show vskip _ _ _ | show withV _ _) | ((with_reducible show endA _ _ _ _ _ _ _); simp -implicitDefEqProofs only [endA]) | (with_reducible first | refine zB default (by first | omega | (simp only [LN, hxx]; omega)) (by first | omega | (simp only [LN, hxx]; omega)) ?_ | refine zC default (by first | omega | (simp only [LN, hxx]; omega)) ?_ | refine And.intro (by first | decide | omega | assumption | (simp only [LN, hxx]; omega)) ?_) | ((with_reducible apply zD); (exact kp)) | ((with_reducible apply zE); (exact kp); rfl) | ((with_reducible apply zF); (exact kp)) | ((with_reducible show pickE _ _ _); first | refine zA _ ⟨by omega, by rfl⟩ ?_ | refine zA _ (by rfl) ?_) | fail); try simp -dsimp -implicitDefEqProofs (maxSteps := 1000000) (disch := first | omega | (simp only [LN, hxx]; omega)) only [go_sem, hxx])
    | fail)
   all_goals first | omega | (refine zZ (i + 1) ?_ ?_ ?_; (omega); (show _ < _; omega); (simp -dsimp -implicitDefEqProofs (maxSteps := 1000000) (disch := first | omega | (simp only [LN, hs]; omega)) only [go_sem, hs]; try trivial))
  ·obtain rfl : i = l.length := by omega
   have ht := List.take_length (l := l)
   repeat' (first
    | (with_reducible first | apply zY | apply zT | apply zM | apply zN | apply zO | refine chk_ok (by kernel_rfl) ?_)
    | ((with_reducible first | apply zP | apply zQ | apply zR | apply zL) <;> intro h <;> try (exfalso; first | omega | exact h rfl | (revert h; decide) | (cases h; done)))
    | ((with_reducible show False); omega)
    | ((first | (with_reducible first | apply zW | apply zV | apply zU | apply zS | apply zX | show VX _ _ _ _ _ _ _ | show vstep _ _ _ _ _ | show vskip _ _ _ | show withV _ _) | ((with_reducible show endA _ _ _ _ _ _ _); simp -implicitDefEqProofs only [endA]) | (with_reducible first | refine zB default (by first | omega | (simp only [LN, ht]; omega)) (by first | omega | (simp only [LN, ht]; omega)) ?_ | refine zC default (by first | omega | (simp only [LN, ht]; omega)) ?_ | refine And.intro (by first | decide | omega | assumption | (simp only [LN, ht]; omega)) ?_) | ((with_reducible show pickE _ _ _); first | refine zA _ ⟨by omega, by rfl⟩ ?_ | refine zA _ (by rfl) ?_) | fail); try simp -dsimp -implicitDefEqProofs (maxSteps := 1000000) (disch := first | omega | (simp only [LN, ht]; omega)) only [go_sem, ht])
    | fail)
   all_goals first | omega | rfl
attribute [local irreducible] txL
end Go.Proofs.YtckhjklcfagkoaaGreatDoor
namespace Go.Proofs.YtckhjklcfagkoaaGreatDoor
open Go Go.Ab
attribute [local irreducible] callK callF loopQ vstep vskip pickE hideP
open Go.RowKit
set_option maxRecDepth 100000
theorem few_rng2 {l : List Ev} {n : Nat} (hR : ∀ x, x ∈ l → Rng x) : ∀ x, x ∈ fewE l n → Rng x ∧ (0 ≤ x.k ∧ x.k ≤ 255) ∧ x.ch.length ≤ 600 := by
 intro x hx
 obtain ⟨y, hy, rfl⟩ := List.mem_map.1 hx
 exact ⟨plE_rng (hR y (List.mem_of_mem_take hy)), plE_k y, plE_ch y⟩
theorem few_len2 (l : List Ev) (n : Nat) : (fewE l n).length ≤ n := by unfold fewE; rw [List.length_map, List.length_take]; omega
theorem rStepX (A : Dv) (M : MT) (N : Nat) (h : RInv A M N) (hN : N ≤ 1000000) (hno : ∀ k, k < 8 → NoteOk A k) (x : Ev) (R : Rng x) (hc : x.ch.length ≤ 1000000) (hx : ¬ (okE x = true ∧ x.k = 7)) :
  ACalls Tryz.prog 13 [.loc 0 0, .p (rE x)] [rdO A M 1, rlO A] (.tup [.loc 0 0, .p (.v (.bool (A.stepB x))), .p (.v (.int .i64 (A.stepE x)))]) [rdO (A.step x) (Mv A M x) 1, rlO (A.step x)] := by
 cases hv : okE x with
 | false => exact rStepN A M x hc hv
 | true =>
  have hk := okE_t hv
  have hks : x.k = 1 ∨ x.k = 2 ∨ x.k = 3 ∨ x.k = 4 ∨ x.k = 5 ∨ x.k = 6 := by have : ¬ x.k = 7 := fun e => hx ⟨hv, e⟩; unfold okK at hk; omega
  rcases hks with e | e | e | e | e | e
  ·exact rStep1 A M N h x R hv e
  ·exact rStep2 A M N h x R hv e
  ·exact rStep3 A M N h hN x R hv e
  ·exact rStep4 A M N h hN hno x R hv e
  ·exact rStep5 A M N h x R hv e
  ·exact rStep6 A M N h x R hv e
def nilE : PV := .agg [.v (.int .u8 4), .v (.int .i64 0), .v (.int .u64 0), .v (.int .u64 0), .v (.int .u64 0), .v (.int .i64 0), .v (.int .i64 0), .v (.slice none 0 0)]
attribute [local go_sem] nilE
end Go.Proofs.YtckhjklcfagkoaaGreatDoor
