/- Contracts of functions of this program, and the plain facts that they rest on. No conditions. -/
import Derived.Test.YtckhjklcfagkoaaGreatDoorRvEQ
import Derived.Test.YtckhjklcfagkoaaGreatDoorJDvI0Q
set_option linter.unusedSimpArgs false
set_option linter.unusedVariables false
namespace Go.Proofs.YtckhjklcfagkoaaGreatDoor
set_option maxHeartbeats 4000000
set_option maxRecDepth 100000
open Go Go.Ab
attribute [local irreducible] callK callF loopQ vstep vskip pickE hideP
attribute [local go_sem] rdO rlO lns_len eNt
def setOb : ASt → List (Nat × Ob) → ASt
 | s, [] => s
 | s, (i, o) :: r => setOb ⟨s.n, s.t, setL s.L i (some o)⟩ r
attribute [local go_sem] setOb
theorem r_loopS {P : Program} {nb : Nat} {Q : Exit → ASt → Prop} {n : Nat} {t : List (Nat × Option AV)} {L : List (Option Ob)} {c : Code} {α : Type} (keep : List Nat) (vs : α → Nat → List (Nat × AV)) (obs : α → Nat → List (Nat × Ob)) (new : α → List Ob) (tu : α → List (Nat × Ob)) (p : α → Prop) (m : α → Nat) (x₀ : α)
  (h0 : p x₀) (hs0 : Wk nb ⟨n, t, L⟩ (setOb (hdS nb ⟨n, t, L⟩ keep (vs x₀) (obs x₀) (new x₀)) (tu x₀))) (I : α → ASt) (hI : ∀ x, setOb (hdS nb ⟨n, t, L⟩ keep (vs x) (obs x) (new x)) (tu x) = I x)
  (round : ∀ x, p x → awp P nb c (loopQ nb I p m x Q) (I x)) : awp P nb (.loop c) Q ⟨n, t, L⟩ :=
 r_loop I p m x₀ h0 (by rw [← hI]; exact hs0) round
def SL (L : List (Nat × Int)) (i : Nat) : Nat → Prop := fun r => ∃ p, p ∈ L.take i ∧ p.1 = r
theorem SL_0 (L : List (Nat × Int)) (r : Nat) : ¬ SL L 0 r := by rintro ⟨p, h, _⟩; simp at h
theorem SL_s {L : List (Nat × Int)} {i : Nat} (h : i < L.length) (r : Nat) : SL L (i + 1) r ↔ SL L i r ∨ r = (L.getD i default).1 := by
 unfold SL
 rw [yE default h]
 constructor
 ·rintro ⟨p, h1, h2⟩
  rcases List.mem_append.1 h1 with h1 | h1
  ·exact .inl ⟨p, h1, h2⟩
  ·rw [List.mem_singleton] at h1; subst h1; exact .inr h2.symm
 ·rintro (⟨p, h1, h2⟩ | rfl)
  ·exact ⟨p, List.mem_append_left _ h1, h2⟩
  ·exact ⟨_, List.mem_append_right _ (List.mem_singleton.2 rfl), rfl⟩
theorem SL_new {L : List (Nat × Int)} (hp : L.Pairwise fun p q => p.1 ≠ q.1) {i : Nat} (h : i < L.length) : ¬ SL L i (L.getD i default).1 := by
 rintro ⟨p, h1, h2⟩
 obtain ⟨j, hj, e⟩ := List.mem_iff_getElem.1 h1
 rw [List.length_take] at hj
 rw [List.getElem_take] at e
 have := List.pairwise_iff_getElem.1 hp j i (by omega) h (by omega)
 rw [e, h2] at this
 simp [List.getD_eq_getElem?_getD, h] at this
def feM (A : Dv) (M : MT) (k : Nat) : MT := if A.cntB true = true then upd M k [] else M
theorem fencS_SL {A B : Dv} {M : MT} {N k : Nat} (hM : NtOk A M N) (hk : k < 8) (hb : B.note = A.note) : fencS B k (SL (M k) (M k).length) = fencS B k (fun _ => True) := by
 refine fencS_eq fun r => ?_
 rw [if_pos trivial]
 split
 ·rfl
 ·rename_i hs
  unfold kF
  split
  ·rename_i v hv
   rw [hb] at hv
   obtain ⟨p, h1, h2⟩ := hM.b k hk _ _ hv
   simp only [Value.int.injEq, true_and] at h2
   exact absurd ⟨p, by rw [List.take_length]; exact h1, by omega⟩ hs
  ·rfl
theorem SL_is {A B : Dv} {M : MT} {N k : Nat} (hM : NtOk A M N) (hk : k < 8) (hb : B.note = A.note) (hB : WF B) (hn : NoteOk B k) {L : List (Nat × Int)} (hL : L = M k) {i : Nat} (hi : i < L.length) {D : Dv} (hD : D = fencS B k (SL L i)) :
  ∃ (q : Nat) (v : Int), L.getD i default = (q, v) ∧ q < B.n ∧ D.done q = B.done q ∧ D.hist q = B.hist q ∧ 0 ≤ v ∧ v ≤ B.done q + (B.hist q).length ∧ kF B k q = (v - B.done q).toNat ∧ D.persist q (kF B k q) = fencS B k (SL L (i + 1)) := by
 have hm : L.getD i default ∈ M k := by rw [← hL]; simp [List.getD_eq_getElem?_getD, hi]
 have hnew := SL_new (by rw [hL]; exact hM.c k hk) hi
 have hs := SL_s hi
 generalize L.getD i default = p at *
 obtain ⟨q, v⟩ := p
 have ha := hM.a k hk _ hm
 rw [← hb] at ha
 obtain ⟨r, h1, h2, h3, h4⟩ := hn _ _ ha
 simp only [Value.int.injEq, true_and] at h2
 have : r = q := by omega
 subst this
 have e1 : D.done r = B.done r := by rw [hD]; exact if_neg hnew
 have e2 : D.hist r = B.hist r := by rw [hD]; exact if_neg hnew
 refine ⟨r, v, rfl, h1, e1, e2, h3, h4, by unfold kF; rw [ha], ?_⟩
 rw [hD]; exact fencS_step hB hn h1 hnew hs
theorem rFence (A : Dv) (M : MT) (N : Nat) (hM : NtOk A M N) (hN : N ≤ 1000000) (k : Nat) (hk : k < 8) (h : WF A) (hL : LO A) (hn : NoteOk A k) : ACalls Tryz.prog 47 [.loc 0 0, .p (.v (.int .i64 k))] [rdO A M 1, rlO A] (.p (.tup [])) [rdO (A.fence k) (feM A M k) 1, rlO (A.fence k)] := by
 refine yA (E := E) (fn := Tryz.f47) 47 [] rfl rfl rfl rfl (by decide) rfl rfl ?_
 have kc := rCnt A M k hk true hL
 by_cases hc : A.cntB true = true
 ·have hcp := cnt_p A k true
  have hf : A.fence k = { fencS (A.cnt k true) k (fun _ => True) with note := upd (A.cnt k true).note k (fun _ => none) } := if_pos hc
  have hBw : WF (A.cnt k true) := h.cnt _ _
  have hnB : NoteOk (A.cnt k true) k := by
   intro x v hx
   rw [hcp.2.2.2.2.2] at hx
   rw [hcp.1, hcp.2.2.2.1, hcp.2.2.2.2.1]
   exact hn x v hx
  have hbn : (A.cnt k true).note = A.note := hcp.2.2.2.2.2
  rw [hc] at kc
  rw [hf, show feM A M k = upd M k [] from if_pos hc]
  have hle := hM.l k hk
  obtain ⟨L, hL2⟩ : ∃ L, L = M k := ⟨_, rfl⟩
  rw [← hL2] at hle
  have hLl : L.length = (M k).length := by rw [hL2]
  have hall := fencS_SL (B := A.cnt k true) hM hk hbn
  rw [← hL2] at hall
  have hz := fencS_none hBw (k := k) (S := SL L 0) (fun r _ hs => absurd hs (SL_0 L r)) (fun r _ => SL_0 L r)
  have his := fun (i : Nat) (hi : i < L.length) (D : Dv) (hD : D = fencS (A.cnt k true) k (SL L i)) => SL_is hM hk hbn hBw hnB hL2 hi hD
  have hwf := fun (i : Nat) => wf_fencS hBw hnB (SL L i)
  have hFv : ∀ S, (fencS (A.cnt k true) k S).n = (A.cnt k true).n ∧ (fencS (A.cnt k true) k S).err = (A.cnt k true).err ∧ (fencS (A.cnt k true) k S).off = (A.cnt k true).off ∧ (fencS (A.cnt k true) k S).ex = (A.cnt k true).ex ∧ leftR (fencS (A.cnt k true) k S) = leftR (A.cnt k true) := fun S => ⟨rfl, rfl, rfl, rfl, rfl⟩
  have hlenB := hBw.len
  obtain ⟨a1, a2, a3, a4, a5, a6⟩ : ({ fencS (A.cnt k true) k (fun _ => True) with note := upd (A.cnt k true).note k (fun _ => none) } : Dv).n = (fencS (A.cnt k true) k (fun _ => True)).n ∧ ({ fencS (A.cnt k true) k (fun _ => True) with note := upd (A.cnt k true).note k (fun _ => none) } : Dv).err = (fencS (A.cnt k true) k (fun _ => True)).err ∧ ({ fencS (A.cnt k true) k (fun _ => True) with note := upd (A.cnt k true).note k (fun _ => none) } : Dv).off = (fencS (A.cnt k true) k (fun _ => True)).off ∧ ({ fencS (A.cnt k true) k (fun _ => True) with note := upd (A.cnt k true).note k (fun _ => none) } : Dv).ex = (fencS (A.cnt k true) k (fun _ => True)).ex ∧ lnsR { fencS (A.cnt k true) k (fun _ => True) with note := upd (A.cnt k true).note k (fun _ => none) } = lnsR (fencS (A.cnt k true) k (fun _ => True)) ∧ leftR { fencS (A.cnt k true) k (fun _ => True) with note := upd (A.cnt k true).note k (fun _ => none) } = leftR (fencS (A.cnt k true) k (fun _ => True)) := ⟨rfl, rfl, rfl, rfl, rfl, rfl⟩
  generalize ({ fencS (A.cnt k true) k (fun _ => True) with note := upd (A.cnt k true).note k (fun _ => none) } : Dv) = C at *
  clear hf
  generalize fencS (A.cnt k true) k = F at *
  generalize hB : A.cnt k true = B at *
  have h6 := hBw.n6
  rcases lt8 hk with rfl | rfl | rfl | rfl | rfl | rfl | rfl | rfl
  all_goals
   repeat' (first
    | (with_reducible first | apply zY | apply zT | apply zM | apply zN | apply zO | refine chk_ok (by kernel_rfl) ?_)
    | ((with_reducible first | apply zP | apply zQ | apply zR | apply zL) <;> intro h <;> try (exfalso; first | omega | exact h rfl | (revert h; decide) | (cases h; done)))
    | ((with_reducible show False); omega)
    | ((first | (with_reducible first | apply zW | apply zV | apply zU | apply zS | apply zX | show VX _ _ _ _ _ _ _ | show vstep _ _ _ _ _ | show vskip _ _ _ | show withV _ _) | ((with_reducible show endA _ _ _ _ _ _ _); simp -implicitDefEqProofs only [endA]) | (with_reducible first | refine zB default (by first | omega | (simp only [LN]; omega)) (by first | omega | (simp only [LN]; omega)) ?_ | refine zC default (by first | omega | (simp only [LN]; omega)) ?_ | refine And.intro (by first | decide | omega | assumption | (simp only [LN]; omega)) ?_) | (with_reducible first | apply zG | apply zH | apply zI) | ((with_reducible apply zJ); (first | exact kc | fail)) | ((with_reducible show pickE _ _ _); first | refine zA _ ⟨by omega, by rfl⟩ ?_ | refine zA _ (by rfl) ?_) | fail); try simp -dsimp -implicitDefEqProofs (maxSteps := 1000000) (disch := first | omega | (simp only [LN]; omega)) only [go_sem])
    | fail)
   refine r_loopS (α := Nat × Dv) [0, 1, 16, 17] (fun x b => [(18, aI x.1)]) (fun x b => []) (fun x => []) (fun x => [(0, rdO x.2 M 1), (1, rlO x.2)]) (fun x => x.1 ≤ L.length ∧ x.2 = F (SL L x.1)) (fun x => L.length - x.1) ((0, B)) ?_ ?_ ?_ ?_ ?_
   rotate_left 3
   ·intro x; (simp -dsimp -implicitDefEqProofs (maxSteps := 1000000) (disch := first | omega | (simp only [LN]; omega)) only [go_sem]) <;> exact rfl
   rotate_left 2
   ·refine wk_auto ?_; (simp -dsimp -implicitDefEqProofs (maxSteps := 1000000) (disch := first | omega | (simp only [LN]; omega)) only [go_sem]) <;> (try omega)
   rotate_left 1
   ·exact ⟨Nat.zero_le _, hz.symm⟩
   ·rintro ⟨i, D⟩ ⟨hi, hD⟩
    simp only at hi hD
    have w3 : IntKind.i64.wrap ((i : Int) + 1) = ((i + 1 : Nat) : Int) := by rw [IntKind.wrap_i64]; push_cast; omega
    have hDw : WF D := hD ▸ hwf i
    have hDn : D.n = B.n := by rw [hD]; exact (hFv _).1
    repeat' ((fail_if_success (with_reducible show awp _ _ (Code.region 3 _ _) _ _)); first
     | (with_reducible first | apply zY | apply zT | apply zM | apply zN | apply zO | refine chk_ok (by kernel_rfl) ?_)
     | ((with_reducible first | apply zP | apply zQ | apply zR | apply zL) <;> intro h <;> try (exfalso; first | omega | exact h rfl | (revert h; decide) | (cases h; done)))
     | ((with_reducible show False); omega)
     | ((first | (with_reducible first | apply zW | apply zV | apply zU | apply zS | apply zX | show VX _ _ _ _ _ _ _ | show vstep _ _ _ _ _ | show vskip _ _ _ | show withV _ _) | ((with_reducible show endA _ _ _ _ _ _ _); simp -implicitDefEqProofs only [endA]) | (with_reducible first | refine zB default (by first | omega | (simp only [LN, hLl]; omega)) (by first | omega | (simp only [LN, hLl]; omega)) ?_ | refine zC default (by first | omega | (simp only [LN, hLl]; omega)) ?_ | refine And.intro (by first | decide | omega | assumption | (simp only [LN, hLl]; omega)) ?_) | ((with_reducible show pickE _ _ _); first | refine zA _ ⟨by omega, by rfl⟩ ?_ | refine zA _ (by rfl) ?_) | fail); try simp -dsimp -implicitDefEqProofs (maxSteps := 1000000) (disch := first | omega | (simp only [LN, hLl]; omega)) only [go_sem, hLl])
     | fail)
    ·have hil : i < L.length := by omega
     obtain ⟨q, v, hp, hq, hd, hh, hv0, hv1, hkf, hst⟩ := his i hil D hD
     rw [hL2] at hp
     have hlq := hlenB q (by omega)
     have hg := lns_get D (r := q) (by omega)
     rw [← hd] at hkf hv1
     have w1 : IntKind.i64.wrap (v - D.done q) = v - D.done q := by rw [IntKind.wrap_i64]; omega
     have w2 : IntKind.i64.wrap (q : Int) = q := by rw [IntKind.wrap_i64]; omega
     by_cases hgt : D.done q < v
     ·have hkp : ((v - D.done q).toNat : Int) = v - D.done q := by omega
      rw [hkf] at hst
      have kp := rPer D M hDw q (v - D.done q).toNat (by omega) (by rw [hh]; omega)
      rw [hkp] at kp
      repeat' (first
       | (with_reducible first | apply zY | apply zT | apply zM | apply zN | apply zO | refine chk_ok (by kernel_rfl) ?_)
       | ((with_reducible first | apply zP | apply zQ | apply zR | apply zL) <;> intro h <;> try (exfalso; first | omega | exact h rfl | (revert h; decide) | (cases h; done)))
       | ((with_reducible show False); omega)
       | ((first | (with_reducible first | apply zW | apply zV | apply zU | apply zS | apply zX | show VX _ _ _ _ _ _ _ | show vstep _ _ _ _ _ | show vskip _ _ _ | show withV _ _) | ((with_reducible show endA _ _ _ _ _ _ _); simp -implicitDefEqProofs only [endA]) | (with_reducible first | refine zB default (by first | omega | (simp only [LN, hp, hg, lnP, w1, w2, w3]; omega)) (by first | omega | (simp only [LN, hp, hg, lnP, w1, w2, w3]; omega)) ?_ | refine zC default (by first | omega | (simp only [LN, hp, hg, lnP, w1, w2, w3]; omega)) ?_ | refine And.intro (by first | decide | omega | assumption | (simp only [LN, hp, hg, lnP, w1, w2, w3]; omega)) ?_) | (with_reducible first | apply zG | apply zH | apply zI) | ((with_reducible apply zJ); (first | exact kp | fail)) | ((with_reducible show pickE _ _ _); first | refine zA _ ⟨by omega, by rfl⟩ ?_ | refine zA _ (by rfl) ?_) | fail); try simp -dsimp -implicitDefEqProofs (maxSteps := 1000000) (disch := first | omega | (simp only [LN, hp, hg, lnP, w1, w2, w3]; omega)) only [go_sem, hp, hg, lnP, w1, w2, w3])
       | fail)
      (refine zZ ((i + 1, D.persist q (v - D.done q).toNat)) ?_ ?_ ?_; (exact ⟨hil, hst⟩); (show _ < _; omega); (simp -dsimp -implicitDefEqProofs (maxSteps := 1000000) (disch := first | omega | (simp only [LN]; omega)) only [go_sem]; try trivial))
     ·rw [hkf, show (v - D.done q).toNat = 0 by omega, persist_0] at hst
      repeat' (first
       | (with_reducible first | apply zY | apply zT | apply zM | apply zN | apply zO | refine chk_ok (by kernel_rfl) ?_)
       | ((with_reducible first | apply zP | apply zQ | apply zR | apply zL) <;> intro h <;> try (exfalso; first | omega | exact h rfl | (revert h; decide) | (cases h; done)))
       | ((with_reducible show False); omega)
       | ((first | (with_reducible first | apply zW | apply zV | apply zU | apply zS | apply zX | show VX _ _ _ _ _ _ _ | show vstep _ _ _ _ _ | show vskip _ _ _ | show withV _ _) | ((with_reducible show endA _ _ _ _ _ _ _); simp -implicitDefEqProofs only [endA]) | (with_reducible first | refine zB default (by first | omega | (simp only [LN, hp, hg, lnP, w1, w2, w3]; omega)) (by first | omega | (simp only [LN, hp, hg, lnP, w1, w2, w3]; omega)) ?_ | refine zC default (by first | omega | (simp only [LN, hp, hg, lnP, w1, w2, w3]; omega)) ?_ | refine And.intro (by first | decide | omega | assumption | (simp only [LN, hp, hg, lnP, w1, w2, w3]; omega)) ?_) | ((with_reducible show pickE _ _ _); first | refine zA _ ⟨by omega, by rfl⟩ ?_ | refine zA _ (by rfl) ?_) | fail); try simp -dsimp -implicitDefEqProofs (maxSteps := 1000000) (disch := first | omega | (simp only [LN, hp, hg, lnP, w1, w2, w3]; omega)) only [go_sem, hp, hg, lnP, w1, w2, w3])
       | fail)
      (refine zZ ((i + 1, D)) ?_ ?_ ?_; (exact ⟨hil, hst⟩); (show _ < _; omega); (simp -dsimp -implicitDefEqProofs (maxSteps := 1000000) (disch := first | omega | (simp only [LN]; omega)) only [go_sem]; try trivial))
    ·have hil : i = L.length := by omega
     subst hil
     rw [hall] at hD
     obtain ⟨b1, b2, b3, b4, b5⟩ := hFv (fun _ => True)
     rw [← hD] at b1 b2 b3 b4 b5 a1 a2 a3 a4 a5 a6
     repeat' (first
      | (with_reducible first | apply zY | apply zT | apply zM | apply zN | apply zO | refine chk_ok (by kernel_rfl) ?_)
      | ((with_reducible first | apply zP | apply zQ | apply zR | apply zL) <;> intro h <;> try (exfalso; first | omega | exact h rfl | (revert h; decide) | (cases h; done)))
      | ((with_reducible show False); omega)
      | ((first | (with_reducible first | apply zW | apply zV | apply zU | apply zS | apply zX | show VX _ _ _ _ _ _ _ | show vstep _ _ _ _ _ | show vskip _ _ _ | show withV _ _) | ((with_reducible show endA _ _ _ _ _ _ _); simp -implicitDefEqProofs only [endA]) | (with_reducible first | refine zB default (by first | omega | (simp only [LN]; omega)) (by first | omega | (simp only [LN]; omega)) ?_ | refine zC default (by first | omega | (simp only [LN]; omega)) ?_ | refine And.intro (by first | decide | omega | assumption | (simp only [LN]; omega)) ?_) | ((with_reducible show pickE _ _ _); first | refine zA _ ⟨by omega, by rfl⟩ ?_ | refine zA _ (by rfl) ?_) | fail); try simp -dsimp -implicitDefEqProofs (maxSteps := 1000000) (disch := first | omega | (simp only [LN]; omega)) only [go_sem])
      | fail)
     simp [upd, a1, a2, a3, a4, a5, a6, b1, b2, b3, b4, b5]
 ·simp only [Bool.not_eq_true] at hc
  rw [hc] at kc
  rw [show A.fence k = A.cnt k true from by unfold Dv.fence; rw [hc]; rfl, show feM A M k = M from by unfold feM; rw [hc]; rfl]
  repeat' (first
   | (with_reducible first | apply zY | apply zT | apply zM | apply zN | apply zO | refine chk_ok (by kernel_rfl) ?_)
   | ((with_reducible first | apply zP | apply zQ | apply zR | apply zL) <;> intro h <;> try (exfalso; first | omega | exact h rfl | (revert h; decide) | (cases h; done)))
   | ((with_reducible show False); omega)
   | ((first | (with_reducible first | apply zW | apply zV | apply zU | apply zS | apply zX | show VX _ _ _ _ _ _ _ | show vstep _ _ _ _ _ | show vskip _ _ _ | show withV _ _) | ((with_reducible show endA _ _ _ _ _ _ _); simp -implicitDefEqProofs only [endA]) | (with_reducible first | refine zB default (by first | omega | (simp only [LN]; omega)) (by first | omega | (simp only [LN]; omega)) ?_ | refine zC default (by first | omega | (simp only [LN]; omega)) ?_ | refine And.intro (by first | decide | omega | assumption | (simp only [LN]; omega)) ?_) | (with_reducible first | apply zG | apply zH | apply zI) | ((with_reducible apply zJ); (first | exact kc | fail)) | ((with_reducible show pickE _ _ _); first | refine zA _ ⟨by omega, by rfl⟩ ?_ | refine zA _ (by rfl) ?_) | fail); try simp -dsimp -implicitDefEqProofs (maxSteps := 1000000) (disch := first | omega | (simp only [LN]; omega)) only [go_sem])
   | fail)
end Go.Proofs.YtckhjklcfagkoaaGreatDoor
