/- Contracts of functions of this program, and the plain facts that they rest on. No conditions. -/
import Derived.Test.YtckhjklcfagkoaaGreatDoorJRvOQ
import Derived.Test.YtckhjklcfagkoaaGreatDoorJDvU2Q
set_option linter.unusedSimpArgs false
set_option linter.unusedVariables false
namespace Go.Proofs.YtckhjklcfagkoaaGreatDoor
set_option maxHeartbeats 4000000
set_option maxRecDepth 100000
open Go Go.Ab
attribute [local irreducible] callK callF loopQ vstep vskip pickE hideP
theorem bMod (a n : Int) (hn : 0 < n ∧ n ≤ 1000000) (ha : -9223372036854775808 ≤ a ∧ a ≤ 9223372036854775807) : PCalls Tryz.prog 77 [.v (.int .i64 a), .v (.int .i64 n)] (.v (.int .i64 (a % n))) := by
 refine yB (E := E) (fn := Tryz.f77) 12 [.tmp 4] rfl rfl rfl rfl (by decide) rfl ?_
 have h0 : n ≠ 0 := by omega
 have hb := Int.emod_nonneg a h0
 have hl := Int.emod_lt_of_pos a hn.1
 have hna : ((n.natAbs : Nat) : Int) = n := by omega
 have ht : a.tmod n = a % n ∨ a.tmod n = a % n - n := by
  rw [Int.tmod_eq_emod]
  split
  ·exact .inl (by omega)
  ·exact .inr (by rw [hna])
 have e0 : IntKind.i64.wrap (a.tmod n) = a.tmod n := by rw [IntKind.wrap_i64]; omega
 have e1 : IntKind.i64.wrap (a.tmod n + n) = a.tmod n + n := by rw [IntKind.wrap_i64]; omega
 have e2 : (a.tmod n + n).tmod n = a % n := by
  rw [Int.tmod_eq_emod_of_nonneg (by omega), Int.add_emod_right]
  rcases ht with ht | ht
  ·rw [ht, Int.emod_emod]
  ·rw [ht, Int.sub_emod_right, Int.emod_emod]
 have e3 : IntKind.i64.wrap (a % n) = a % n := by
  have := Int.emod_nonneg a h0
  have := Int.emod_lt_of_pos a hn.1
  rw [IntKind.wrap_i64]; omega
 repeat' (first
  | (with_reducible first | apply zY | apply zT | apply zM | apply zN | apply zO | refine chk_ok (by kernel_rfl) ?_)
  | ((with_reducible first | apply zP | apply zQ | apply zR | apply zL) <;> intro h)
  | ((with_reducible show False); omega)
  | ((first | (with_reducible first | apply zW | apply zV | apply zU | apply zS | apply zX | show VX _ _ _ _ _ _ _ | show vstep _ _ _ _ _ | show vskip _ _ _ | show withV _ _) | ((with_reducible show endA _ _ _ _ _ _ _); simp -implicitDefEqProofs only [endA]) | (with_reducible first | refine zB default (by first | omega | (simp only [LN, e0, e1, e2, e3, h0]; omega)) (by first | omega | (simp only [LN, e0, e1, e2, e3, h0]; omega)) ?_ | refine zC default (by first | omega | (simp only [LN, e0, e1, e2, e3, h0]; omega)) ?_ | refine And.intro (by first | decide | omega | assumption | (simp only [LN, e0, e1, e2, e3, h0]; omega)) ?_) | ((with_reducible show pickE _ _ _); first | refine zA _ ⟨by omega, by rfl⟩ ?_ | refine zA _ (by rfl) ?_) | fail); try simp -dsimp -implicitDefEqProofs (maxSteps := 1000000) (disch := first | omega | (simp only [LN, e0, e1, e2, e3, h0]; omega)) only [go_sem, e0, e1, e2, e3, h0])
  | fail)
attribute [local go_sem] eWr
theorem bSameW (l : List (Int × Int)) (hl : l.length ≤ 1000000000) : PCalls Tryz.prog 57 [.view 2 (l.map eWr), .view 2 (l.map eWr)] (.v (.bool true)) := by
 refine yD ⟨_, rfl, rfl, by decide⟩ fun hf => ?_
 simp only [go_sem, big] at hf
 refine yB (E := E) (fn := Tryz.f57) 26 [.tmp 4] rfl rfl rfl rfl (by decide) rfl ?_
 repeat' (first
  | (with_reducible first | apply zY | apply zT | apply zM | apply zN | apply zO | refine chk_ok (by kernel_rfl) ?_)
  | ((with_reducible first | apply zP | apply zQ | apply zR | apply zL) <;> intro h)
  | ((with_reducible show False); omega)
  | ((first | (with_reducible first | apply zW | apply zV | apply zU | apply zS | apply zX | show VX _ _ _ _ _ _ _ | show vstep _ _ _ _ _ | show vskip _ _ _ | show withV _ _) | ((with_reducible show endA _ _ _ _ _ _ _); simp -implicitDefEqProofs only [endA]) | (with_reducible first | refine zB default (by first | omega | (simp only [LN]; omega)) (by first | omega | (simp only [LN]; omega)) ?_ | refine zC default (by first | omega | (simp only [LN]; omega)) ?_ | refine And.intro (by first | decide | omega | assumption | (simp only [LN]; omega)) ?_) | ((with_reducible show pickE _ _ _); first | refine zA _ ⟨by omega, by rfl⟩ ?_ | refine zA _ (by rfl) ?_) | fail); try simp -dsimp -implicitDefEqProofs (maxSteps := 1000000) (disch := first | omega | (simp only [LN]; omega)) only [go_sem])
  | fail)
 refine r_loopA (α := Nat) [0, 1, 12] (fun i b => [(13, aI i)]) (fun i b => []) (fun i => []) (fun i => i ≤ l.length) (fun i => l.length - i) (0) ?h0_1 ?hs0_1 ?I_1 ?hI_1 ?round_1
 case hI_1 => intro x; (simp -dsimp -implicitDefEqProofs (maxSteps := 1000000) (disch := first | omega | (simp only [LN]; omega)) only [go_sem]) <;> exact rfl
 case hs0_1 => refine wk_auto ?_; (simp -dsimp -implicitDefEqProofs (maxSteps := 1000000) (disch := first | omega | (simp only [LN]; omega)) only [go_sem]) <;> (try omega)
 case h0_1 => exact Nat.zero_le _
 case round_1 =>
  intro i hi
  have w3 : IntKind.i64.wrap ((i : Int) + 1) = ((i + 1 : Nat) : Int) := by rw [IntKind.wrap_i64]; push_cast; omega
  repeat' (first
   | (with_reducible first | apply zY | apply zT | apply zM | apply zN | apply zO | refine chk_ok (by kernel_rfl) ?_)
   | ((with_reducible first | apply zP | apply zQ | apply zR | apply zL) <;> intro h <;> try (exfalso; first | omega | exact h rfl | (revert h; decide) | (cases h; done)))
   | ((with_reducible show False); omega)
   | ((first | (with_reducible first | apply zW | apply zV | apply zU | apply zS | apply zX | show VX _ _ _ _ _ _ _ | show vstep _ _ _ _ _ | show vskip _ _ _ | show withV _ _) | ((with_reducible show endA _ _ _ _ _ _ _); simp -implicitDefEqProofs only [endA]) | (with_reducible first | refine zB default (by first | omega | (simp only [LN, w3]; omega)) (by first | omega | (simp only [LN, w3]; omega)) ?_ | refine zC default (by first | omega | (simp only [LN, w3]; omega)) ?_ | refine And.intro (by first | decide | omega | assumption | (simp only [LN, w3]; omega)) ?_) | ((with_reducible show pickE _ _ _); first | refine zA _ ⟨by omega, by rfl⟩ ?_ | refine zA _ (by rfl) ?_) | fail); try simp -dsimp -implicitDefEqProofs (maxSteps := 1000000) (disch := first | omega | (simp only [LN, w3]; omega)) only [go_sem, w3])
   | fail)
  all_goals first | omega | (refine zZ (i + 1) ?_ ?_ ?_; (omega); (show _ < _; omega); (simp -dsimp -implicitDefEqProofs (maxSteps := 1000000) (disch := first | omega | (simp only [LN]; omega)) only [go_sem]; try trivial))
theorem acalls_sl0 {P : Program} {f : FuncId} {L L' : List Ob} {r : AV} {i sz st : Nat} (hs : 0 < sz) (h : ACalls P f [.p (.v (.slice none 0 0))] L r L') (h' : ACalls P f [.p (.nview sz [])] L r L') : ACalls P f [.sl i sz st 0] L r L' := by
 refine ⟨h.1, h.2.1, fun Z lb w vals ho hr => ?_⟩
 simp only [AReps] at hr
 obtain ⟨u, us, h1, h2, h3⟩ := hr
 simp only [ARep] at h2
 rcases h2 with ⟨_, _, _, rfl⟩ | ⟨b, cap, _, rfl, h4, _⟩
 ·exact h.2.2 Z lb w vals ho ⟨_, us, h1, ⟨rfl, rfl⟩, h3⟩
 ·exact h'.2.2 Z lb w vals ho ⟨_, us, h1, ⟨[], ⟨b, st * sz, none⟩, cap, rfl, rfl, hs, fun x hx => by simp at hx, Nat.zero_le _, h4, .inl rfl⟩, h3⟩
theorem dCloneE (es : List PV) : ACalls Tryz.prog 64 [.p (.v (.slice none 0 0))] [.arr 2 es] (.p (.view 2 [])) [.arr 2 es] := by
 refine yA (E := E) (fn := Tryz.f64) 8 [.tmp 2] rfl rfl rfl rfl (by decide) rfl rfl ?_
 repeat' (first
  | (with_reducible first | apply zY | apply zT | apply zM | apply zN | apply zO | refine chk_ok (by kernel_rfl) ?_)
  | ((with_reducible first | apply zP | apply zQ | apply zR | apply zL) <;> intro h <;> try (exfalso; first | omega | exact h rfl | (revert h; decide) | (cases h; done)))
  | ((with_reducible show False); omega)
  | ((first | (with_reducible first | apply zW | apply zV | apply zU | apply zS | apply zX | show VX _ _ _ _ _ _ _ | show vstep _ _ _ _ _ | show vskip _ _ _ | show withV _ _) | ((with_reducible show endA _ _ _ _ _ _ _); simp -implicitDefEqProofs only [endA]) | (with_reducible first | refine zB default (by first | omega | (simp only [LN]; omega)) (by first | omega | (simp only [LN]; omega)) ?_ | refine zC default (by first | omega | (simp only [LN]; omega)) ?_ | refine And.intro (by first | decide | omega | assumption | (simp only [LN]; omega)) ?_) | ((with_reducible show pickE _ _ _); first | refine zA _ ⟨by omega, by rfl⟩ ?_ | refine zA _ (by rfl) ?_) | fail); try simp -dsimp -implicitDefEqProofs (maxSteps := 1000000) (disch := first | omega | (simp only [LN]; omega)) only [go_sem])
  | fail)
theorem dCloneE2 (es : List PV) : ACalls Tryz.prog 64 [.p (.nview 2 [])] [.arr 2 es] (.p (.view 2 [])) [.arr 2 es] := by
 refine yA (E := E) (fn := Tryz.f64) 8 [.tmp 2] rfl rfl rfl rfl (by decide) rfl rfl ?_
 repeat' (first
  | (with_reducible first | apply zY | apply zT | apply zM | apply zN | apply zO | refine chk_ok (by kernel_rfl) ?_)
  | ((with_reducible first | apply zP | apply zQ | apply zR | apply zL) <;> intro h <;> try (exfalso; first | omega | exact h rfl | (revert h; decide) | (cases h; done)))
  | ((with_reducible show False); omega)
  | ((first | (with_reducible first | apply zW | apply zV | apply zU | apply zS | apply zX | show VX _ _ _ _ _ _ _ | show vstep _ _ _ _ _ | show vskip _ _ _ | show withV _ _) | ((with_reducible show endA _ _ _ _ _ _ _); simp -implicitDefEqProofs only [endA]) | (with_reducible first | refine zB default (by first | omega | (simp only [LN]; omega)) (by first | omega | (simp only [LN]; omega)) ?_ | refine zC default (by first | omega | (simp only [LN]; omega)) ?_ | refine And.intro (by first | decide | omega | assumption | (simp only [LN]; omega)) ?_) | ((with_reducible show pickE _ _ _); first | refine zA _ ⟨by omega, by rfl⟩ ?_ | refine zA _ (by rfl) ?_) | fail); try simp -dsimp -implicitDefEqProofs (maxSteps := 1000000) (disch := first | omega | (simp only [LN]; omega)) only [go_sem])
  | fail)
theorem dCloneN (es : List PV) (st n : Nat) (h0 : 0 < n) (hn : st + n ≤ es.length) (hl : es.length ≤ 1000000000) : ACalls Tryz.prog 64 [.sl 0 2 st n] [.arr 2 es] (.p (.view 2 ((es.drop st).take n))) [.arr 2 es] := by
 refine yA (E := E) (fn := Tryz.f64) 8 [.tmp 2] rfl rfl rfl rfl (by decide) rfl rfl ?_
 have hl2 : ((es.drop st).take n).length = n := by rw [List.length_take, List.length_drop]; omega
 cases st with
 | zero =>
  rw [List.drop_zero] at hl2 ⊢
  repeat' (first
   | (with_reducible first | apply zY | apply zT | apply zM | apply zN | apply zO | refine chk_ok (by kernel_rfl) ?_)
   | ((with_reducible first | apply zP | apply zQ | apply zR | apply zL) <;> intro h <;> try (exfalso; first | omega | exact h rfl | (revert h; decide) | (cases h; done)))
   | ((with_reducible show False); omega)
   | ((first | (with_reducible first | apply zW | apply zV | apply zU | apply zS | apply zX | show VX _ _ _ _ _ _ _ | show vstep _ _ _ _ _ | show vskip _ _ _ | show withV _ _) | ((with_reducible show endA _ _ _ _ _ _ _); simp -implicitDefEqProofs only [endA]) | (with_reducible first | refine zB default (by first | omega | (simp only [LN, hl2]; omega)) (by first | omega | (simp only [LN, hl2]; omega)) ?_ | refine zC default (by first | omega | (simp only [LN, hl2]; omega)) ?_ | refine And.intro (by first | decide | omega | assumption | (simp only [LN, hl2]; omega)) ?_) | ((with_reducible show pickE _ _ _); first | refine zA _ ⟨by omega, by rfl⟩ ?_ | refine zA _ (by rfl) ?_) | fail); try simp -dsimp -implicitDefEqProofs (maxSteps := 1000000) (disch := first | omega | (simp only [LN, hl2]; omega)) only [go_sem, hl2])
   | fail)
 | succ st =>
  repeat' (first
   | (with_reducible first | apply zY | apply zT | apply zM | apply zN | apply zO | refine chk_ok (by kernel_rfl) ?_)
   | ((with_reducible first | apply zP | apply zQ | apply zR | apply zL) <;> intro h <;> try (exfalso; first | omega | exact h rfl | (revert h; decide) | (cases h; done)))
   | ((with_reducible show False); omega)
   | ((first | (with_reducible first | apply zW | apply zV | apply zU | apply zS | apply zX | show VX _ _ _ _ _ _ _ | show vstep _ _ _ _ _ | show vskip _ _ _ | show withV _ _) | ((with_reducible show endA _ _ _ _ _ _ _); simp -implicitDefEqProofs only [endA]) | (with_reducible first | refine zB default (by first | omega | (simp only [LN, hl2]; omega)) (by first | omega | (simp only [LN, hl2]; omega)) ?_ | refine zC default (by first | omega | (simp only [LN, hl2]; omega)) ?_ | refine And.intro (by first | decide | omega | assumption | (simp only [LN, hl2]; omega)) ?_) | ((with_reducible show pickE _ _ _); first | refine zA _ ⟨by omega, by rfl⟩ ?_ | refine zA _ (by rfl) ?_) | fail); try simp -dsimp -implicitDefEqProofs (maxSteps := 1000000) (disch := first | omega | (simp only [LN, hl2]; omega)) only [go_sem, hl2])
   | fail)
theorem dCloneW (es : List PV) (st n : Nat) (hn : st + n ≤ es.length) (hl : es.length ≤ 1000000000) : ACalls Tryz.prog 64 [.sl 0 2 st n] [.arr 2 es] (.p (.view 2 ((es.drop st).take n))) [.arr 2 es] := by
 rcases Nat.eq_zero_or_pos n with rfl | h0
 ·rw [List.take_zero]; exact acalls_sl0 (by decide) (dCloneE es) (dCloneE2 es)
 ·exact dCloneN es st n h0 hn hl
end Go.Proofs.YtckhjklcfagkoaaGreatDoor
namespace Go.Proofs.YtckhjklcfagkoaaGreatDoor
set_option maxHeartbeats 4000000
set_option maxRecDepth 100000
open Go Go.Ab
attribute [local irreducible] callK callF loopQ vstep vskip pickE hideP
attribute [local go_sem] eU deO peO cuO liO thO hiO noO
theorem dHist6 (A : Dv) (J : JT) (N : Nat) (h : Inv A J N) (hN : N ≤ 1000000000) (r : Nat) (hr : r < A.n) : ACalls Tryz.prog 58 [.loc 0 0, .p (.v (.int .i64 r))] (dvL A J) (.p (.view 2 ((A.hist r).map eWr))) (dvL A J) := by
 refine yA (E := E) (fn := Tryz.f58) 29 [.tmp 4] rfl rfl rfl rfl (by decide) rfl rfl ?_
 have h6 := h.wf.n6
 have hl := h.jl hN r (by omega)
 have hb := h.bd r (by omega)
 have hd := h.wf.len r (by omega)
 have hj := h.jo r (by omega)
 have kc := dCloneW ((jk A J r).map eWr ++ (A.hist r).map eWr) (jk A J r).length (A.hist r).length (by simp) (by simp; omega)
 rw [show (((jk A J r).map eWr ++ (A.hist r).map eWr).drop (jk A J r).length).take (A.hist r).length = (A.hist r).map eWr from by
  rw [show (jk A J r).length = ((jk A J r).map eWr).length by simp, List.drop_left, List.take_of_length_le (by simp)]] at kc
 rcases lt6 (show r < 6 by omega) with rfl | rfl | rfl | rfl | rfl | rfl
 all_goals
  repeat' (first
   | (with_reducible first | apply zY | apply zT | apply zM | apply zN | apply zO | refine chk_ok (by kernel_rfl) ?_)
   | ((with_reducible first | apply zP | apply zQ | apply zR | apply zL) <;> intro h <;> try (exfalso; first | omega | exact h rfl | (revert h; decide) | (cases h; done)))
   | ((with_reducible show False); omega)
   | ((first | (with_reducible first | apply zW | apply zV | apply zU | apply zS | apply zX | show VX _ _ _ _ _ _ _ | show vstep _ _ _ _ _ | show vskip _ _ _ | show withV _ _) | ((with_reducible show endA _ _ _ _ _ _ _); simp -implicitDefEqProofs only [endA]) | (with_reducible first | refine zB default (by first | omega | (simp only [LN]; omega)) (by first | omega | (simp only [LN]; omega)) ?_ | refine zC default (by first | omega | (simp only [LN]; omega)) ?_ | refine And.intro (by first | decide | omega | assumption | (simp only [LN]; omega)) ?_) | (with_reducible first | apply zG | apply zH | apply zI) | ((with_reducible apply zJ); (first | exact kc | fail)) | ((with_reducible show pickE _ _ _); first | refine zA _ ⟨by omega, by rfl⟩ ?_ | refine zA _ (by rfl) ?_) | fail); try simp -dsimp -implicitDefEqProofs (maxSteps := 1000000) (disch := first | omega | (simp only [LN]; omega)) only [go_sem])
   | fail)
  refine And.intro (by split <;> (simp <;> omega)) ?_
  repeat' (first
   | (with_reducible first | apply zY | apply zT | apply zM | apply zN | apply zO | refine chk_ok (by kernel_rfl) ?_)
   | ((with_reducible first | apply zP | apply zQ | apply zR | apply zL) <;> intro h <;> try (exfalso; first | omega | exact h rfl | (revert h; decide) | (cases h; done)))
   | ((with_reducible show False); omega)
   | ((first | (with_reducible first | apply zW | apply zV | apply zU | apply zS | apply zX | show VX _ _ _ _ _ _ _ | show vstep _ _ _ _ _ | show vskip _ _ _ | show withV _ _) | ((with_reducible show endA _ _ _ _ _ _ _); simp -implicitDefEqProofs only [endA]) | (with_reducible first | refine zB default (by first | omega | (simp only [LN]; omega)) (by first | omega | (simp only [LN]; omega)) ?_ | refine zC default (by first | omega | (simp only [LN]; omega)) ?_ | refine And.intro (by first | decide | omega | assumption | (simp only [LN]; omega)) ?_) | (with_reducible first | apply zG | apply zH | apply zI) | ((with_reducible apply zJ); (first | exact kc | fail)) | ((with_reducible show pickE _ _ _); first | refine zA _ ⟨by omega, by rfl⟩ ?_ | refine zA _ (by rfl) ?_) | fail); try simp -dsimp -implicitDefEqProofs (maxSteps := 1000000) (disch := first | omega | (simp only [LN]; omega)) only [go_sem])
   | fail)
  all_goals first | omega
end Go.Proofs.YtckhjklcfagkoaaGreatDoor
