/- Contracts of functions of this program, and the plain facts that they rest on. No conditions. -/
import Derived.Test.YtckhjklcfagkoaaGreatDoorScGQ
set_option linter.unusedSimpArgs false
set_option linter.unusedVariables false
namespace Go.Proofs.YtckhjklcfagkoaaGreatDoor
set_option maxHeartbeats 4000000
set_option maxRecDepth 100000
open Go Go.Ab
attribute [local irreducible] callK callF loopQ vstep vskip pickE hideP
open Go.RowKit
attribute [local go_sem] eE eT bs_inj ext_bs byteAt_bs fV
attribute [local irreducible] numL
theorem tx_len5 {x : Ev} (h : okE x = true) (R : Rng x) : 5 ≤ (txE x).length := by
 have hk := okE_t h
 have n1 := numL_len (n := x.th) ⟨R.th.1, by have := R.th.2; omega⟩
 have n6 := numL_len (n := x.n) ⟨R.n.1, by have := R.n.2; omega⟩
 have n5 := numL_len (n := x.ln) ⟨R.ln.1, by have := R.ln.2; omega⟩
 have hks : x.k = 1 ∨ x.k = 2 ∨ x.k = 3 ∨ x.k = 4 ∨ x.k = 5 ∨ x.k = 6 ∨ x.k = 7 := by unfold okK at hk; omega
 rcases hks with h | h | h | h | h | h | h <;> simp [txE, wsE, joinL, h] <;> omega
theorem ev_1 {x : Ev} (h : okK x) (hk : x.k = 1) : x = ⟨1, x.th, x.o, x.v, 0, 0, 0, []⟩ ∧ 0 ≤ x.th ∧ x.th ≤ 7 := by
 unfold okK at h
 obtain ⟨k, th, o, v, w, ln, n, ch⟩ := x
 simp only at *
 have h1 : ch.length = 0 ∧ w = 0 ∧ ln = 0 ∧ n = 0 ∧ 0 ≤ th ∧ th ≤ 7 := by omega
 obtain ⟨h1, rfl, rfl, rfl, h2⟩ := h1
 obtain rfl := List.length_eq_zero_iff.1 h1
 exact ⟨by rw [hk], h2⟩
theorem ev_2 {x : Ev} (h : okK x) (hk : x.k = 2) : x = ⟨2, x.th, x.o, x.v, x.w, 0, 0, []⟩ ∧ 0 ≤ x.th ∧ x.th ≤ 7 := by
 unfold okK at h
 obtain ⟨k, th, o, v, w, ln, n, ch⟩ := x
 simp only at *
 have h1 : ch.length = 0 ∧ ln = 0 ∧ n = 0 ∧ 0 ≤ th ∧ th ≤ 7 := by omega
 obtain ⟨h1, rfl, rfl, h2⟩ := h1
 obtain rfl := List.length_eq_zero_iff.1 h1
 exact ⟨by rw [hk], h2⟩
theorem ev_3 {x : Ev} (h : okK x) (hk : x.k = 3) : x = ⟨3, x.th, x.o, 0, 0, 0, 0, []⟩ ∧ 0 ≤ x.th ∧ x.th ≤ 7 := by
 unfold okK at h
 obtain ⟨k, th, o, v, w, ln, n, ch⟩ := x
 simp only at *
 have h1 : ch.length = 0 ∧ v = 0 ∧ w = 0 ∧ ln = 0 ∧ n = 0 ∧ 0 ≤ th ∧ th ≤ 7 := by omega
 obtain ⟨h1, rfl, rfl, rfl, rfl, h2⟩ := h1
 obtain rfl := List.length_eq_zero_iff.1 h1
 exact ⟨by rw [hk], h2⟩
theorem ev_4 {x : Ev} (h : okK x) (hk : x.k = 4) : x = ⟨4, x.th, 0, 0, 0, 0, 0, []⟩ ∧ 0 ≤ x.th ∧ x.th ≤ 7 := by
 unfold okK at h
 obtain ⟨k, th, o, v, w, ln, n, ch⟩ := x
 simp only at *
 have h1 : ch.length = 0 ∧ o = 0 ∧ v = 0 ∧ w = 0 ∧ ln = 0 ∧ n = 0 ∧ 0 ≤ th ∧ th ≤ 7 := by omega
 obtain ⟨h1, rfl, rfl, rfl, rfl, rfl, h2⟩ := h1
 obtain rfl := List.length_eq_zero_iff.1 h1
 exact ⟨by rw [hk], h2⟩
theorem ev_5 {x : Ev} (h : okK x) (hk : x.k = 5) : x = ⟨5, 0, 0, 0, 0, x.ln, x.n, []⟩ ∧ (0 ≤ x.ln ∧ x.ln ≤ 4095) ∧ 0 ≤ x.n ∧ x.n ≤ 2147483647 := by
 unfold okK at h
 obtain ⟨k, th, o, v, w, ln, n, ch⟩ := x
 simp only at *
 have h1 : ch.length = 0 ∧ th = 0 ∧ o = 0 ∧ v = 0 ∧ w = 0 ∧ (0 ≤ ln ∧ ln ≤ 4095) ∧ 0 ≤ n ∧ n ≤ 2147483647 := by omega
 obtain ⟨h1, rfl, rfl, rfl, rfl, h2⟩ := h1
 obtain rfl := List.length_eq_zero_iff.1 h1
 exact ⟨by rw [hk], h2⟩
theorem ev_6 {x : Ev} (h : okK x) (hk : x.k = 6) : x = ⟨6, 0, 0, 0, 0, 0, x.n, []⟩ ∧ -1 ≤ x.n ∧ x.n ≤ 2147483647 := by
 unfold okK at h
 obtain ⟨k, th, o, v, w, ln, n, ch⟩ := x
 simp only at *
 have h1 : ch.length = 0 ∧ th = 0 ∧ o = 0 ∧ v = 0 ∧ w = 0 ∧ ln = 0 ∧ -1 ≤ n ∧ n ≤ 2147483647 := by omega
 obtain ⟨h1, rfl, rfl, rfl, rfl, rfl, h2⟩ := h1
 obtain rfl := List.length_eq_zero_iff.1 h1
 exact ⟨by rw [hk], h2⟩
theorem ev_7 {x : Ev} (h : okK x) (hk : x.k = 7) : x = ⟨7, 0, 0, 0, 0, 0, 0, x.ch⟩ ∧ x.ch.length ≤ 512 := by
 unfold okK at h
 obtain ⟨k, th, o, v, w, ln, n, ch⟩ := x
 simp only at *
 have h1 : th = 0 ∧ o = 0 ∧ v = 0 ∧ w = 0 ∧ ln = 0 ∧ n = 0 ∧ ch.length ≤ 512 := by omega
 obtain ⟨rfl, rfl, rfl, rfl, rfl, rfl, h2⟩ := h1
 exact ⟨by rw [hk], h2⟩
theorem num_m1 : numL (-1) = [45, 49] := by simp [numL, Lib.itoa, Lib.decDigits]
theorem num_nm {n : Int} (h : 0 ≤ n) : ¬ numL n = [45, 49] := fun e => by
 have h1 := parseU (n := n)
 rw [numL_pos h] at e
 have h2 : (Lib.decDigits n.toNat).getD 0 0 = 45 := by rw [e]; rfl
 have key : ∀ u : Nat, ¬ (Lib.decDigits u).getD 0 0 = 45 := by
  intro u
  induction u using Nat.strongRecOn with
  | _ u ih =>
   intro hu
   by_cases h : u < 10
   ·rw [Lib.decDigits, dif_pos h] at hu
    have := congrArg UInt8.toNat hu
    simp at this; omega
   ·rw [Lib.decDigits, dif_neg h] at hu
    refine ih (u / 10) (by omega) ?_
    cases hd : Lib.decDigits (u / 10) with
    | nil => exact absurd hd (dec_ne _)
    | cons c r => rw [hd] at hu; exact hu
 exact key _ h2
theorem sLine (x : Ev) (R : Rng x) (hv : okE x = true) : PCalls Tryz.prog 76 [.v (.string (bs (txE x)))] (.tup [eE x, .v (.bool true)]) := by
 refine yB (E := E) (fn := Tryz.f76) 102 [.cell 2 41, .tmp 3] rfl rfl rfl rfl (by decide) rfl ?_
 have hk := okE_t hv
 have h5 := tx_len5 hv R
 have hle := txE_len hv R
 have ks := lSplitN (wsE x) (wsE_ne x).1 (fun w hw => wsE_ns x 32 (.inl rfl) w hw) (wsE_ne x).2 (by unfold txE at hle; omega) (by unfold txE at h5; omega)
 have hro := R.o
 have hrv := R.v
 have hrw := R.w
 have kv := sValid x (by unfold okK at hk; omega)
 rw [hv] at kv
 unfold txE
 have hks : x.k = 1 ∨ x.k = 2 ∨ x.k = 3 ∨ x.k = 4 ∨ x.k = 5 ∨ x.k = 6 ∨ x.k = 7 := by unfold okK at hk; omega
 rcases hks with h | h | h | h | h | h | h
 ·obtain ⟨e, h1, h2⟩ := ev_1 hk h
  generalize x.th = th at *
  generalize x.o = o at *
  generalize x.v = v at *
  subst e
  simp only [wsE, if_true, if_false, Int.reduceEq] at ks ⊢
  repeat' (first
   | (with_reducible first | apply zY | apply zT | apply zM | apply zN | apply zO | refine chk_ok (by kernel_rfl) ?_)
   | ((with_reducible first | apply zP | apply zQ | apply zR | apply zL) <;> intro h <;> try (exfalso; first | omega | exact h rfl | (revert h; decide) | (cases h; done)))
   | ((with_reducible show False); omega)
   | ((first | (with_reducible first | apply zW | apply zV | apply zU | apply zS | apply zX | show VX _ _ _ _ _ _ _ | show vstep _ _ _ _ _ | show vskip _ _ _ | show withV _ _) | ((with_reducible show endA _ _ _ _ _ _ _); simp -implicitDefEqProofs only [endA]) | (with_reducible first | refine zB default (by first | omega | (simp only [LN]; omega)) (by first | omega | (simp only [LN]; omega)) ?_ | refine zC default (by first | omega | (simp only [LN]; omega)) ?_ | refine And.intro (by first | decide | omega | assumption | (simp only [LN]; omega)) ?_) | ((with_reducible apply callK_to); exact kv; (focus (simp -dsimp -implicitDefEqProofs (maxSteps := 1000000) (disch := first | omega | (simp only [LN]; omega)) only [go_sem]; done))) | ((with_reducible apply zD); (exact ks)) | ((with_reducible apply zE); (exact ks); rfl) | ((with_reducible apply zF); (exact ks)) | (with_reducible first | apply zG | apply zH | apply zI) | ((with_reducible apply zJ); (first | exact rdWord [115, 116, 111, 114, 101] [numL th, numL o, numL v] false (by simp) | exact rdThr th ⟨h1, h2⟩ [numL o, numL v] false (by simp) | exact rdNum o 18446744073709551615 hro (by decide) [numL v] false (by simp) | exact rdNum v 18446744073709551615 hrv (by decide) [] false (by simp) | fail)) | ((with_reducible show pickE _ _ _); first | refine zA _ ⟨by omega, by rfl⟩ ?_ | refine zA _ (by rfl) ?_) | fail); try simp -dsimp -implicitDefEqProofs (maxSteps := 1000000) (disch := first | omega | (simp only [LN]; omega)) only [go_sem])
   | fail)
  all_goals first | omega
 ·obtain ⟨e, h1, h2⟩ := ev_2 hk h
  generalize x.th = th at *
  generalize x.o = o at *
  generalize x.v = v at *
  generalize x.w = w at *
  subst e
  simp only [wsE, if_true, if_false, Int.reduceEq] at ks ⊢
  repeat' (first
   | (with_reducible first | apply zY | apply zT | apply zM | apply zN | apply zO | refine chk_ok (by kernel_rfl) ?_)
   | ((with_reducible first | apply zP | apply zQ | apply zR | apply zL) <;> intro h <;> try (exfalso; first | omega | exact h rfl | (revert h; decide) | (cases h; done)))
   | ((with_reducible show False); omega)
   | ((first | (with_reducible first | apply zW | apply zV | apply zU | apply zS | apply zX | show VX _ _ _ _ _ _ _ | show vstep _ _ _ _ _ | show vskip _ _ _ | show withV _ _) | ((with_reducible show endA _ _ _ _ _ _ _); simp -implicitDefEqProofs only [endA]) | (with_reducible first | refine zB default (by first | omega | (simp only [LN]; omega)) (by first | omega | (simp only [LN]; omega)) ?_ | refine zC default (by first | omega | (simp only [LN]; omega)) ?_ | refine And.intro (by first | decide | omega | assumption | (simp only [LN]; omega)) ?_) | ((with_reducible apply callK_to); exact kv; (focus (simp -dsimp -implicitDefEqProofs (maxSteps := 1000000) (disch := first | omega | (simp only [LN]; omega)) only [go_sem]; done))) | ((with_reducible apply zD); (exact ks)) | ((with_reducible apply zE); (exact ks); rfl) | ((with_reducible apply zF); (exact ks)) | (with_reducible first | apply zG | apply zH | apply zI) | ((with_reducible apply zJ); (first | exact rdWord [99, 97, 115] [numL th, numL o, numL w, numL v] false (by simp) | exact rdThr th ⟨h1, h2⟩ [numL o, numL w, numL v] false (by simp) | exact rdNum o 18446744073709551615 hro (by decide) [numL w, numL v] false (by simp) | exact rdNum w 18446744073709551615 hrw (by decide) [numL v] false (by simp) | exact rdNum v 18446744073709551615 hrv (by decide) [] false (by simp) | fail)) | ((with_reducible show pickE _ _ _); first | refine zA _ ⟨by omega, by rfl⟩ ?_ | refine zA _ (by rfl) ?_) | fail); try simp -dsimp -implicitDefEqProofs (maxSteps := 1000000) (disch := first | omega | (simp only [LN]; omega)) only [go_sem])
   | fail)
  all_goals first | omega
 ·obtain ⟨e, h1, h2⟩ := ev_3 hk h
  generalize x.th = th at *
  generalize x.o = o at *
  subst e
  simp only [wsE, if_true, if_false, Int.reduceEq] at ks ⊢
  repeat' (first
   | (with_reducible first | apply zY | apply zT | apply zM | apply zN | apply zO | refine chk_ok (by kernel_rfl) ?_)
   | ((with_reducible first | apply zP | apply zQ | apply zR | apply zL) <;> intro h <;> try (exfalso; first | omega | exact h rfl | (revert h; decide) | (cases h; done)))
   | ((with_reducible show False); omega)
   | ((first | (with_reducible first | apply zW | apply zV | apply zU | apply zS | apply zX | show VX _ _ _ _ _ _ _ | show vstep _ _ _ _ _ | show vskip _ _ _ | show withV _ _) | ((with_reducible show endA _ _ _ _ _ _ _); simp -implicitDefEqProofs only [endA]) | (with_reducible first | refine zB default (by first | omega | (simp only [LN]; omega)) (by first | omega | (simp only [LN]; omega)) ?_ | refine zC default (by first | omega | (simp only [LN]; omega)) ?_ | refine And.intro (by first | decide | omega | assumption | (simp only [LN]; omega)) ?_) | ((with_reducible apply callK_to); exact kv; (focus (simp -dsimp -implicitDefEqProofs (maxSteps := 1000000) (disch := first | omega | (simp only [LN]; omega)) only [go_sem]; done))) | ((with_reducible apply zD); (exact ks)) | ((with_reducible apply zE); (exact ks); rfl) | ((with_reducible apply zF); (exact ks)) | (with_reducible first | apply zG | apply zH | apply zI) | ((with_reducible apply zJ); (first | exact rdWord [102, 108, 117, 115, 104] [numL th, numL o] false (by simp) | exact rdThr th ⟨h1, h2⟩ [numL o] false (by simp) | exact rdNum o 18446744073709551615 hro (by decide) [] false (by simp) | fail)) | ((with_reducible show pickE _ _ _); first | refine zA _ ⟨by omega, by rfl⟩ ?_ | refine zA _ (by rfl) ?_) | fail); try simp -dsimp -implicitDefEqProofs (maxSteps := 1000000) (disch := first | omega | (simp only [LN]; omega)) only [go_sem])
   | fail)
  all_goals first | omega
 ·obtain ⟨e, h1, h2⟩ := ev_4 hk h
  generalize x.th = th at *
  subst e
  simp only [wsE, if_true, if_false, Int.reduceEq] at ks ⊢
  repeat' (first
   | (with_reducible first | apply zY | apply zT | apply zM | apply zN | apply zO | refine chk_ok (by kernel_rfl) ?_)
   | ((with_reducible first | apply zP | apply zQ | apply zR | apply zL) <;> intro h <;> try (exfalso; first | omega | exact h rfl | (revert h; decide) | (cases h; done)))
   | ((with_reducible show False); omega)
   | ((first | (with_reducible first | apply zW | apply zV | apply zU | apply zS | apply zX | show VX _ _ _ _ _ _ _ | show vstep _ _ _ _ _ | show vskip _ _ _ | show withV _ _) | ((with_reducible show endA _ _ _ _ _ _ _); simp -implicitDefEqProofs only [endA]) | (with_reducible first | refine zB default (by first | omega | (simp only [LN]; omega)) (by first | omega | (simp only [LN]; omega)) ?_ | refine zC default (by first | omega | (simp only [LN]; omega)) ?_ | refine And.intro (by first | decide | omega | assumption | (simp only [LN]; omega)) ?_) | ((with_reducible apply callK_to); exact kv; (focus (simp -dsimp -implicitDefEqProofs (maxSteps := 1000000) (disch := first | omega | (simp only [LN]; omega)) only [go_sem]; done))) | ((with_reducible apply zD); (exact ks)) | ((with_reducible apply zE); (exact ks); rfl) | ((with_reducible apply zF); (exact ks)) | (with_reducible first | apply zG | apply zH | apply zI) | ((with_reducible apply zJ); (first | exact rdWord [102, 101, 110, 99, 101] [numL th] false (by simp) | exact rdThr th ⟨h1, h2⟩ [] false (by simp) | fail)) | ((with_reducible show pickE _ _ _); first | refine zA _ ⟨by omega, by rfl⟩ ?_ | refine zA _ (by rfl) ?_) | fail); try simp -dsimp -implicitDefEqProofs (maxSteps := 1000000) (disch := first | omega | (simp only [LN]; omega)) only [go_sem])
   | fail)
  all_goals first | omega
 ·obtain ⟨e, ⟨h1, h2⟩, h3, h4⟩ := ev_5 hk h
  generalize x.ln = ln at *
  generalize x.n = n at *
  subst e
  simp only [wsE, if_true, if_false, Int.reduceEq] at ks ⊢
  have w1 : IntKind.i64.wrap ln = ln := by rw [IntKind.wrap_i64]; omega
  have w2 : IntKind.i64.wrap n = n := by rw [IntKind.wrap_i64]; omega
  repeat' (first
   | (with_reducible first | apply zY | apply zT | apply zM | apply zN | apply zO | refine chk_ok (by kernel_rfl) ?_)
   | ((with_reducible first | apply zP | apply zQ | apply zR | apply zL) <;> intro h <;> try (exfalso; first | omega | exact h rfl | (revert h; decide) | (cases h; done)))
   | ((with_reducible show False); omega)
   | ((first | (with_reducible first | apply zW | apply zV | apply zU | apply zS | apply zX | show VX _ _ _ _ _ _ _ | show vstep _ _ _ _ _ | show vskip _ _ _ | show withV _ _) | ((with_reducible show endA _ _ _ _ _ _ _); simp -implicitDefEqProofs only [endA]) | (with_reducible first | refine zB default (by first | omega | (simp only [LN, w1, w2]; omega)) (by first | omega | (simp only [LN, w1, w2]; omega)) ?_ | refine zC default (by first | omega | (simp only [LN, w1, w2]; omega)) ?_ | refine And.intro (by first | decide | omega | assumption | (simp only [LN, w1, w2]; omega)) ?_) | ((with_reducible apply callK_to); exact kv; (focus (simp -dsimp -implicitDefEqProofs (maxSteps := 1000000) (disch := first | omega | (simp only [LN, w1, w2]; omega)) only [go_sem, w1, w2]; done))) | ((with_reducible apply zD); (exact ks)) | ((with_reducible apply zE); (exact ks); rfl) | ((with_reducible apply zF); (exact ks)) | (with_reducible first | apply zG | apply zH | apply zI) | ((with_reducible apply zJ); (first | exact rdWord [119, 114, 105, 116, 101, 98, 97, 99, 107] [numL ln, numL n] false (by simp) | exact rdNum ln 4095 ⟨h1, h2⟩ (by decide) [numL n] false (by simp) | exact rdNum n 2147483647 ⟨h3, h4⟩ (by decide) [] false (by simp) | fail)) | ((with_reducible show pickE _ _ _); first | refine zA _ ⟨by omega, by rfl⟩ ?_ | refine zA _ (by rfl) ?_) | fail); try simp -dsimp -implicitDefEqProofs (maxSteps := 1000000) (disch := first | omega | (simp only [LN, w1, w2]; omega)) only [go_sem, w1, w2])
   | fail)
  all_goals first | omega
 ·obtain ⟨e, h1, h2⟩ := ev_6 hk h
  generalize x.n = n at *
  subst e
  simp only [wsE, if_true, if_false, Int.reduceEq] at ks ⊢
  by_cases hn : n = -1
  ·subst hn
   rw [num_m1] at ks ⊢
   repeat' (first
    | (with_reducible first | apply zY | apply zT | apply zM | apply zN | apply zO | refine chk_ok (by kernel_rfl) ?_)
    | ((with_reducible first | apply zP | apply zQ | apply zR | apply zL) <;> intro h <;> try (exfalso; first | omega | exact h rfl | (revert h; decide) | (cases h; done)))
    | ((with_reducible show False); omega)
    | ((first | (with_reducible first | apply zW | apply zV | apply zU | apply zS | apply zX | show VX _ _ _ _ _ _ _ | show vstep _ _ _ _ _ | show vskip _ _ _ | show withV _ _) | ((with_reducible show endA _ _ _ _ _ _ _); simp -implicitDefEqProofs only [endA]) | (with_reducible first | refine zB default (by first | omega | (simp only [LN]; omega)) (by first | omega | (simp only [LN]; omega)) ?_ | refine zC default (by first | omega | (simp only [LN]; omega)) ?_ | refine And.intro (by first | decide | omega | assumption | (simp only [LN]; omega)) ?_) | ((with_reducible apply callK_to); exact kv; (focus (simp -dsimp -implicitDefEqProofs (maxSteps := 1000000) (disch := first | omega | (simp only [LN]; omega)) only [go_sem]; done))) | ((with_reducible apply zD); (exact ks)) | ((with_reducible apply zE); (exact ks); rfl) | ((with_reducible apply zF); (exact ks)) | (with_reducible first | apply zG | apply zH | apply zI) | ((with_reducible apply zJ); (first | exact rdWord [97, 114, 109] [[45, 49]] false (by simp) | fail)) | ((with_reducible show pickE _ _ _); first | refine zA _ ⟨by omega, by rfl⟩ ?_ | refine zA _ (by rfl) ?_) | fail); try simp -dsimp -implicitDefEqProofs (maxSteps := 1000000) (disch := first | omega | (simp only [LN]; omega)) only [go_sem])
    | fail)
   all_goals first | omega
  ·have hnm := num_nm (n := n) (by omega)
   have w2 : IntKind.i64.wrap n = n := by rw [IntKind.wrap_i64]; omega
   repeat' (first
    | (with_reducible first | apply zY | apply zT | apply zM | apply zN | apply zO | refine chk_ok (by kernel_rfl) ?_)
    | ((with_reducible first | apply zP | apply zQ | apply zR | apply zL) <;> intro h <;> try (exfalso; first | omega | exact h rfl | (revert h; decide) | (cases h; done)))
    | ((with_reducible show False); omega)
    | ((first | (with_reducible first | apply zW | apply zV | apply zU | apply zS | apply zX | show VX _ _ _ _ _ _ _ | show vstep _ _ _ _ _ | show vskip _ _ _ | show withV _ _) | ((with_reducible show endA _ _ _ _ _ _ _); simp -implicitDefEqProofs only [endA]) | (with_reducible first | refine zB default (by first | omega | (simp only [LN, w2]; omega)) (by first | omega | (simp only [LN, w2]; omega)) ?_ | refine zC default (by first | omega | (simp only [LN, w2]; omega)) ?_ | refine And.intro (by first | decide | omega | assumption | (simp only [LN, w2]; omega)) ?_) | ((with_reducible apply callK_to); exact kv; (focus (simp -dsimp -implicitDefEqProofs (maxSteps := 1000000) (disch := first | omega | (simp only [LN, w2]; omega)) only [go_sem, w2]; done))) | ((with_reducible apply zD); (exact ks)) | ((with_reducible apply zE); (exact ks); rfl) | ((with_reducible apply zF); (exact ks)) | (with_reducible first | apply zG | apply zH | apply zI) | ((with_reducible apply zJ); (first | exact rdWord [97, 114, 109] [numL n] false (by simp) | exact rdNum n 2147483647 ⟨by omega, h2⟩ (by decide) [] false (by simp) | fail)) | ((with_reducible show pickE _ _ _); first | refine zA _ ⟨by omega, by rfl⟩ ?_ | refine zA _ (by rfl) ?_) | fail); try simp -dsimp -implicitDefEqProofs (maxSteps := 1000000) (disch := first | omega | (simp only [LN, w2]; omega)) only [go_sem, w2])
    | fail)
   all_goals first | omega | contradiction
 ·obtain ⟨e, h1⟩ := ev_7 hk h
  generalize x.ch = ch at *
  subst e
  simp only [wsE, if_true, if_false, Int.reduceEq] at ks ⊢
  repeat' (first
   | (with_reducible first | apply zY | apply zT | apply zM | apply zN | apply zO | refine chk_ok (by kernel_rfl) ?_)
   | ((with_reducible first | apply zP | apply zQ | apply zR | apply zL) <;> intro h <;> try (exfalso; first | omega | exact h rfl | (revert h; decide) | (cases h; done)))
   | ((with_reducible show False); omega)
   | ((first | (with_reducible first | apply zW | apply zV | apply zU | apply zS | apply zX | show VX _ _ _ _ _ _ _ | show vstep _ _ _ _ _ | show vskip _ _ _ | show withV _ _) | ((with_reducible show endA _ _ _ _ _ _ _); simp -implicitDefEqProofs only [endA]) | (with_reducible first | refine zB default (by first | omega | (simp only [LN]; omega)) (by first | omega | (simp only [LN]; omega)) ?_ | refine zC default (by first | omega | (simp only [LN]; omega)) ?_ | refine And.intro (by first | decide | omega | assumption | (simp only [LN]; omega)) ?_) | ((with_reducible apply callK_to); exact kv; (focus (simp -dsimp -implicitDefEqProofs (maxSteps := 1000000) (disch := first | omega | (simp only [LN]; omega)) only [go_sem]; done))) | ((with_reducible apply zD); (exact ks)) | ((with_reducible apply zE); (exact ks); rfl) | ((with_reducible apply zF); (exact ks)) | (with_reducible first | apply zG | apply zH | apply zI) | ((with_reducible apply zJ); (first | exact rdWord [99, 114, 97, 115, 104] [chL ch] false (by simp) | exact rdCh ch h1 [] false (by simp) | fail)) | ((with_reducible show pickE _ _ _); first | refine zA _ ⟨by omega, by rfl⟩ ?_ | refine zA _ (by rfl) ?_) | fail); try simp -dsimp -implicitDefEqProofs (maxSteps := 1000000) (disch := first | omega | (simp only [LN]; omega)) only [go_sem])
   | fail)
  all_goals first | omega
end Go.Proofs.YtckhjklcfagkoaaGreatDoor
