/- Contracts of functions of this program, and the plain facts that they rest on. No conditions. -/
import Derived.Test.YtckhjklcfagkoaaGreatDoorJDvPQ
set_option linter.unusedSimpArgs false
set_option linter.unusedVariables false
namespace Go.Proofs.YtckhjklcfagkoaaGreatDoor
open Go Go.Ab
attribute [local irreducible] callK callF loopQ vstep vskip pickE hideP
theorem own_ple {Z : Nat → Prop} {lb : Lb} {L : List (Option Ob)} {w : World} {i sz : Nat} {es es' : List PV} (h : Own Z lb L w) (hi : L[i]? = some (some (.arr sz es))) (hp : PLes es es') : Own Z lb (L.set i (some (.arr sz es'))) w := by
 have hlt : i < L.length := by
  rcases Nat.lt_or_ge i L.length with h1 | h1
  ·exact h1
  ·rw [List.getElem?_eq_none h1] at hi; cases hi
 have get : ∀ (j : Nat) o, (L.set i (some (.arr sz es')))[j]? = some (some o) → (j = i ∧ o = .arr sz es') ∨ (j ≠ i ∧ L[j]? = some (some o)) := by
  intro j o hj
  by_cases e : i = j
  ·subst e
   rw [List.getElem?_set_self hlt] at hj
   simp only [Option.some.injEq] at hj
   exact .inl ⟨rfl, hj.symm⟩
  ·rw [List.getElem?_set_ne e] at hj
   exact .inr ⟨fun h => e h.symm, hj⟩
 refine ⟨by rw [List.length_set]; exact h.len, fun j o hj => ?_, fun j hj => ?_, fun j k o o' b hj hk l1 l2 e1 e2 => ?_, h.zlt⟩
 ·rcases get j o hj with ⟨rfl, rfl⟩ | ⟨_, hj⟩
  ·obtain ⟨x, h1, h2⟩ := h.obj _ _ hi
   refine ⟨x, h1, ?_⟩
   cases x with
   | none =>
    obtain ⟨rfl, h3⟩ := h2
    simp only [PLes] at hp
    exact ⟨hp, h3⟩
   | some b =>
    obtain ⟨a1, a2, vs, arr, ty, fr, a3, a4⟩ := h2
    exact ⟨a1, a2, vs, arr, ty, fr, ples_rep _ _ _ hp a3, a4⟩
  ·exact h.obj _ _ hj
 ·by_cases e : i = j
  ·subst e; rw [List.getElem?_set_self hlt] at hj; cases hj
  ·rw [List.getElem?_set_ne e] at hj; exact h.hole _ hj
 ·have old : ∀ (j : Nat) o, (L.set i (some (.arr sz es')))[j]? = some (some o) → o.live → ∃ o2, L[j]? = some (some o2) ∧ o2.live := by
   intro j o hj hl
   rcases get j o hj with ⟨rfl, rfl⟩ | ⟨_, hj⟩
   ·exact ⟨_, hi, trivial⟩
   ·exact ⟨o, hj, hl⟩
  obtain ⟨p1, p2, p3⟩ := old j o hj l1
  obtain ⟨q1, q2, q3⟩ := old k o' hk l2
  exact h.inj j k _ _ b p2 q2 p3 q3 e1 e2
theorem acalls_ple {P : Program} {f : FuncId} {args : List AV} {L L' : List Ob} {r : AV} {i sz : Nat} {es es' : List PV} (h : ACalls P f args L r L') (hi : L'[i]? = some (.arr sz es)) (hp : PLes es es') : ACalls P f args L r (L'.set i (.arr sz es')) := by
 refine ⟨h.1, by rw [List.length_set]; exact h.2.1, fun Z lb w vals ho hr => ?_⟩
 refine (h.2.2 Z lb w vals ho hr).mono fun e w' => ?_
 rintro ⟨u, Z', lb', h1, h2, h3⟩
 refine ⟨u, Z', lb', h1, ?_, h3⟩
 rw [List.map_set]
 exact own_ple h2 (by rw [List.getElem?_map, hi]; rfl) hp
theorem ples_map {α : Type} (f g : α → PV) (l : List α) (h : ∀ x, x ∈ l → PLe (f x) (g x)) : PLes (l.map f) (l.map g) := by
 induction l with
 | nil => simp [PLes]
 | cons x l ih =>
  simp only [List.map_cons, PLes]
  exact ⟨h x (List.mem_cons_self ..), ih fun y hy => h y (List.mem_cons_of_mem _ hy)⟩
end Go.Proofs.YtckhjklcfagkoaaGreatDoor
namespace Go.Proofs.YtckhjklcfagkoaaGreatDoor
set_option maxHeartbeats 4000000
set_option maxRecDepth 100000
open Go Go.Ab
attribute [local irreducible] callK callF loopQ vstep vskip pickE hideP
attribute [local go_sem] rdO rlO lns_len eNd
theorem r_frz {P : Program} {nb : Nat} {Q : Exit → ASt → Prop} {s : ASt} {c : Code} (keep : List Nat) (vs : Nat → List (Nat × AV)) (h : ∀ I, hdS nb s keep vs (fun _ => []) [] = I → wkAll nb s I (sgOf nb s I.t I.L) ∧ awp P nb c Q I) : awp P nb c Q s :=
 r_weak (wk_auto (h _ rfl).1) (h _ rfl).2
theorem rCurrent (A : Dv) (M : MT) (h : WF A) (hp : RngL A.per) (hC : CurOk A) : ACalls Tryz.prog 53 [.loc 0 0] [rdO A M 1, rlO A] (.p (.view 1 (oL A.cur (64 * A.n)))) [rdO A M 1, rlO A] := by
 refine yA (E := E) (fn := Tryz.f53) 30 [.tmp 2] rfl rfl rfl rfl (by decide) rfl rfl ?_
 have h6 := h.n6
 have kd := rDirty A M h
 have hml : ∀ r, r < A.n → A.hist r ≠ [] → kC A ((dirL A A.n).map fun r => (A.hist r).length) r = (A.hist r).length ∧ (A.hist r).length ≤ (A.hist r).length := fun r h1 h2 => ⟨kC_map _ h1 h2, Nat.le_refl _⟩
 have hlt := dirL_len A A.n
 have kc := rCont A M h hp ((dirL A A.n).map fun r => (A.hist r).length) (by rw [List.length_map]; omega) (kC_le _ _ hml)
 rw [contS_dir (fun r h1 h2 => (hml r h1 h2).1), ← (show A.cur = _ from hC), List.map_map] at kc
 repeat' (first
  | (with_reducible first | apply zY | apply zT | apply zM | apply zN | apply zO | refine chk_ok (by kernel_rfl) ?_)
  | ((with_reducible first | apply zP | apply zQ | apply zR | apply zL) <;> intro h <;> try (exfalso; first | omega | exact h rfl | (revert h; decide) | (cases h; done)))
  | ((with_reducible show False); omega)
  | ((first | (with_reducible first | apply zW | apply zV | apply zU | apply zS | apply zX | show VX _ _ _ _ _ _ _ | show vstep _ _ _ _ _ | show vskip _ _ _ | show withV _ _) | ((with_reducible show endA _ _ _ _ _ _ _); simp -implicitDefEqProofs only [endA]) | (with_reducible first | refine zB default (by first | omega | (simp only [LN]; omega)) (by first | omega | (simp only [LN]; omega)) ?_ | refine zC default (by first | omega | (simp only [LN]; omega)) ?_ | refine And.intro (by first | decide | omega | assumption | (simp only [LN]; omega)) ?_) | (with_reducible first | apply zG | apply zH | apply zI) | ((with_reducible apply zJ); (first | exact kd | fail)) | ((with_reducible show pickE _ _ _); first | refine zA _ ⟨by omega, by rfl⟩ ?_ | refine zA _ (by rfl) ?_) | fail); try simp -dsimp -implicitDefEqProofs (maxSteps := 1000000) (disch := first | omega | (simp only [LN]; omega)) only [go_sem])
  | fail)
 refine r_loopA (α := Nat) [0, 8, 9] (fun i b => [(3, .sl b 1 0 i), (10, aI i)]) (fun i b => []) (fun i => [.arr 1 (((dirL A A.n).take i).map (eNd ∘ fun r => (A.hist r).length))]) (fun i => i ≤ (dirL A A.n).length) (fun i => (dirL A A.n).length - i) (0) ?h0_1 ?hs0_1 ?I_1 ?hI_1 ?round_1
 case hI_1 => intro x; (simp -dsimp -implicitDefEqProofs (maxSteps := 1000000) (disch := first | omega | (simp only [LN]; omega)) only [go_sem]) <;> exact rfl
 case hs0_1 => refine wk_auto ?_; (simp -dsimp -implicitDefEqProofs (maxSteps := 1000000) (disch := first | omega | (simp only [LN, List.take_zero, List.map_nil]; omega)) only [go_sem, List.take_zero, List.map_nil]) <;> (try omega)
 case h0_1 => exact Nat.zero_le _
 case round_1 =>
  intro i h1
  have w3 : IntKind.i64.wrap ((i : Int) + 1) = ((i + 1 : Nat) : Int) := by rw [IntKind.wrap_i64]; push_cast; omega
  by_cases hi : i < (dirL A A.n).length
  ·have hr := (dirL_ix hi).2.1
   have ht := yE default hi
   obtain ⟨r, hx⟩ : ∃ r, (dirL A A.n).getD i default = r := ⟨_, rfl⟩
   rw [hx] at hr ht
   have hg := lns_get A hr
   have hl : (((dirL A A.n).take i).map (eNd ∘ fun r => (A.hist r).length)).length = i := by rw [List.length_map, List.length_take]; omega
   repeat' (first
    | (with_reducible first | apply zY | apply zT | apply zM | apply zN | apply zO | refine chk_ok (by kernel_rfl) ?_)
    | ((with_reducible first | apply zP | apply zQ | apply zR | apply zL) <;> intro h <;> try (exfalso; first | omega | exact h rfl | (revert h; decide) | (cases h; done)))
    | ((with_reducible show False); omega)
    | ((first | (with_reducible first | apply zW | apply zV | apply zU | apply zS | apply zX | show VX _ _ _ _ _ _ _ | show vstep _ _ _ _ _ | show vskip _ _ _ | show withV _ _) | ((with_reducible show endA _ _ _ _ _ _ _); simp -implicitDefEqProofs only [endA]) | (with_reducible first | refine zB default (by first | omega | (simp only [LN, hx, hg, lnP, w3]; omega)) (by first | omega | (simp only [LN, hx, hg, lnP, w3]; omega)) ?_ | refine zC default (by first | omega | (simp only [LN, hx, hg, lnP, w3]; omega)) ?_ | refine And.intro (by first | decide | omega | assumption | (simp only [LN, hx, hg, lnP, w3]; omega)) ?_) | ((with_reducible show pickE _ _ _); first | refine zA _ ⟨by omega, by rfl⟩ ?_ | refine zA _ (by rfl) ?_) | fail); try simp -dsimp -implicitDefEqProofs (maxSteps := 1000000) (disch := first | omega | (simp only [LN, hx, hg, lnP, w3]; omega)) only [go_sem, hx, hg, lnP, w3])
    | fail)
   all_goals first | omega | ((refine zZ (i + 1) ?_ ?_ ?_; (omega); (show _ < _; omega); (simp -dsimp -implicitDefEqProofs (maxSteps := 1000000) (disch := first | omega | (simp only [LN, ht, List.map_append]; omega)) only [go_sem, ht, List.map_append]; try trivial)); exact .inl rfl)
  ·obtain rfl : i = (dirL A A.n).length := by omega
   have hl : (((dirL A A.n)).map (eNd ∘ fun r => (A.hist r).length)).length = (dirL A A.n).length := by rw [List.length_map]
   rw [List.take_length]
   repeat' ((fail_if_success (with_reducible show awp _ _ (Code.region 7 _ _) _ _)); first
    | (with_reducible first | apply zY | apply zT | apply zM | apply zN | apply zO | refine chk_ok (by kernel_rfl) ?_)
    | ((with_reducible first | apply zP | apply zQ | apply zR | apply zL) <;> intro h <;> try (exfalso; first | omega | exact h rfl | (revert h; decide) | (cases h; done)))
    | ((with_reducible show False); omega)
    | ((first | (with_reducible first | apply zW | apply zV | apply zU | apply zS | apply zX | show VX _ _ _ _ _ _ _ | show vstep _ _ _ _ _ | show vskip _ _ _ | show withV _ _) | ((with_reducible show endA _ _ _ _ _ _ _); simp -implicitDefEqProofs only [endA]) | (with_reducible first | refine zB default (by first | omega | (simp only [LN]; omega)) (by first | omega | (simp only [LN]; omega)) ?_ | refine zC default (by first | omega | (simp only [LN]; omega)) ?_ | refine And.intro (by first | decide | omega | assumption | (simp only [LN]; omega)) ?_) | ((with_reducible show pickE _ _ _); first | refine zA _ ⟨by omega, by rfl⟩ ?_ | refine zA _ (by rfl) ?_) | fail); try simp -dsimp -implicitDefEqProofs (maxSteps := 1000000) (disch := first | omega | (simp only [LN]; omega)) only [go_sem])
    | fail)
   refine r_frz [0] (fun b => [(3, .p (.view 1 ((dirL A A.n).map (eNd ∘ fun r => (A.hist r).length))))]) fun I hI => ?_
   simp -dsimp -implicitDefEqProofs (maxSteps := 1000000) (disch := first | omega | (simp only [LN]; omega)) only [go_sem] at hI
   subst hI
   refine And.intro ?_ ?_
   ·(simp -dsimp -implicitDefEqProofs (maxSteps := 1000000) (disch := first | omega | (simp only [LN, hl]; omega)) only [go_sem, hl]) <;> (try omega)
   repeat' (first
    | (with_reducible first | apply zY | apply zT | apply zM | apply zN | apply zO | refine chk_ok (by kernel_rfl) ?_)
    | ((with_reducible first | apply zP | apply zQ | apply zR | apply zL) <;> intro h <;> try (exfalso; first | omega | exact h rfl | (revert h; decide) | (cases h; done)))
    | ((with_reducible show False); omega)
    | ((first | (with_reducible first | apply zW | apply zV | apply zU | apply zS | apply zX | show VX _ _ _ _ _ _ _ | show vstep _ _ _ _ _ | show vskip _ _ _ | show withV _ _) | ((with_reducible show endA _ _ _ _ _ _ _); simp -implicitDefEqProofs only [endA]) | (with_reducible first | refine zB default (by first | omega | (simp only [LN]; omega)) (by first | omega | (simp only [LN]; omega)) ?_ | refine zC default (by first | omega | (simp only [LN]; omega)) ?_ | refine And.intro (by first | decide | omega | assumption | (simp only [LN]; omega)) ?_) | (with_reducible first | apply zG | apply zH | apply zI) | ((with_reducible apply zJ); (first | exact kc | fail)) | ((with_reducible show pickE _ _ _); first | refine zA _ ⟨by omega, by rfl⟩ ?_ | refine zA _ (by rfl) ?_) | fail); try simp -dsimp -implicitDefEqProofs (maxSteps := 1000000) (disch := first | omega | (simp only [LN]; omega)) only [go_sem])
    | fail)
   all_goals first | omega | rfl
theorem rLoad (A : Dv) (M : MT) (k : Nat) (hk : k < 8) (h : WF A) (hC : CurOk A) (o : Int) (ho : 0 ≤ o ∧ o ≤ 18446744073709551615) : ACalls Tryz.prog 80 [.loc 0 0, .p (.v (.int .i64 k)), .p (.v (.int .u64 o))] [rdO A M 1, rlO A] (.p (.v (.int .u64 (A.load o)))) [rdO (A.onS k (A.isW o)) M 1, rlO (A.onS k (A.isW o))] := by
 refine yA (E := E) (fn := Tryz.f80) 17 [.tmp 6] rfl rfl rfl rfl (by decide) rfl rfl ?_
 have h6 := h.n6
 have ki := rIs A M h6 o ho
 have km := rMay A M k hk (A.isW o)
 by_cases hv : (!A.off && A.isW o) = true
 ·rw [hv, onS_t hv] at km
  rw [onS_t hv, show A.load o = A.cur.getD (o / 8).toNat 0 from if_pos hv]
  simp only [Bool.and_eq_true] at hv
  obtain ⟨h1, h2, h3⟩ := isW_of hv.2 ho.1
  have kv := rVal A M h hC (o / 64).toNat h1 o ⟨h2, h3, ho⟩
  repeat' (first
   | (with_reducible first | apply zY | apply zT | apply zM | apply zN | apply zO | refine chk_ok (by kernel_rfl) ?_)
   | ((with_reducible first | apply zP | apply zQ | apply zR | apply zL) <;> intro h <;> try (exfalso; first | omega | exact h rfl | (revert h; decide) | (cases h; done)))
   | ((with_reducible show False); omega)
   | ((first | (with_reducible first | apply zW | apply zV | apply zU | apply zS | apply zX | show VX _ _ _ _ _ _ _ | show vstep _ _ _ _ _ | show vskip _ _ _ | show withV _ _) | ((with_reducible show endA _ _ _ _ _ _ _); simp -implicitDefEqProofs only [endA]) | (with_reducible first | refine zB default (by first | omega | (simp only [LN]; omega)) (by first | omega | (simp only [LN]; omega)) ?_ | refine zC default (by first | omega | (simp only [LN]; omega)) ?_ | refine And.intro (by first | decide | omega | assumption | (simp only [LN]; omega)) ?_) | (with_reducible first | apply zG | apply zH | apply zI) | ((with_reducible apply zJ); (first | exact ki | exact km | exact kv | fail)) | ((with_reducible show pickE _ _ _); first | refine zA _ ⟨by omega, by rfl⟩ ?_ | refine zA _ (by rfl) ?_) | fail); try simp -dsimp -implicitDefEqProofs (maxSteps := 1000000) (disch := first | omega | (simp only [LN]; omega)) only [go_sem])
   | fail)
 ·have hv2 : (!A.off && A.isW o) = false := by simpa using hv
  rw [hv2] at km
  rw [show A.load o = 0 from if_neg hv]
  repeat' (first
   | (with_reducible first | apply zY | apply zT | apply zM | apply zN | apply zO | refine chk_ok (by kernel_rfl) ?_)
   | ((with_reducible first | apply zP | apply zQ | apply zR | apply zL) <;> intro h <;> try (exfalso; first | omega | exact h rfl | (revert h; decide) | (cases h; done)))
   | ((with_reducible show False); omega)
   | ((first | (with_reducible first | apply zW | apply zV | apply zU | apply zS | apply zX | show VX _ _ _ _ _ _ _ | show vstep _ _ _ _ _ | show vskip _ _ _ | show withV _ _) | ((with_reducible show endA _ _ _ _ _ _ _); simp -implicitDefEqProofs only [endA]) | (with_reducible first | refine zB default (by first | omega | (simp only [LN]; omega)) (by first | omega | (simp only [LN]; omega)) ?_ | refine zC default (by first | omega | (simp only [LN]; omega)) ?_ | refine And.intro (by first | decide | omega | assumption | (simp only [LN]; omega)) ?_) | (with_reducible first | apply zG | apply zH | apply zI) | ((with_reducible apply zJ); (first | exact ki | exact km | fail)) | ((with_reducible show pickE _ _ _); first | refine zA _ ⟨by omega, by rfl⟩ ?_ | refine zA _ (by rfl) ?_) | fail); try simp -dsimp -implicitDefEqProofs (maxSteps := 1000000) (disch := first | omega | (simp only [LN]; omega)) only [go_sem])
   | fail)
def zLn : PV := .agg [.v (.int .u64 0), .v (.int .u64 0), .v (.int .u64 0), .v (.int .u64 0), .v (.int .u64 0), .v (.int .u64 0), .v (.int .u64 0), .v (.int .u64 0), .v (.slice none 0 0), .v (.int .i64 0)]
theorem rNew0 (n : Nat) (hn : 0 < n ∧ n ≤ 6) : ACalls Tryz.prog 78 [.p (.v (.int .i64 n))] [] (.loc 0 0) [rdO (Dv.fresh n (List.replicate (8 * n) 0)) (fun _ => []) 1, .arr 10 (List.replicate n zLn)] := by
 refine yA (E := E) (fn := Tryz.f78) 7 [.tmp 2] rfl rfl rfl rfl (by decide) rfl rfl ?_
 repeat' (first
  | (with_reducible first | apply zY | apply zT | apply zM | apply zN | apply zO | refine chk_ok (by kernel_rfl) ?_)
  | ((with_reducible first | apply zP | apply zQ | apply zR | apply zL) <;> intro h)
  | ((with_reducible show False); omega)
  | ((first | (with_reducible first | apply zW | apply zV | apply zU | apply zS | apply zX | show VX _ _ _ _ _ _ _ | show vstep _ _ _ _ _ | show vskip _ _ _ | show withV _ _) | ((with_reducible show endA _ _ _ _ _ _ _); simp -implicitDefEqProofs only [endA]) | (with_reducible first | refine zB default (by first | omega | (simp only [LN]; omega)) (by first | omega | (simp only [LN]; omega)) ?_ | refine zC default (by first | omega | (simp only [LN]; omega)) ?_ | refine And.intro (by first | decide | omega | assumption | (simp only [LN]; omega)) ?_) | ((with_reducible show pickE _ _ _); first | refine zA _ ⟨by omega, by rfl⟩ ?_ | refine zA _ (by rfl) ?_) | fail); try simp -dsimp -implicitDefEqProofs (maxSteps := 1000000) (disch := first | omega | (simp only [LN]; omega)) only [go_sem])
  | fail)
 all_goals (simp [Dv.fresh, leftR, zLn])
theorem zLn_le (n : Nat) : PLes (List.replicate n zLn) (lnsR (Dv.fresh n (List.replicate (8 * n) 0))) := by
 rw [show List.replicate n zLn = (List.range n).map fun _ => zLn from by apply List.ext_getElem (by simp); intro i h1 h2; simp]
 refine ples_map _ _ _ fun i hi => ?_
 have hi := List.mem_range.1 hi
 have hw : ∀ j, j < 8 → wA (List.replicate (8 * n) 0) i j = .v (.int .u64 0) := fun j hj => by
  unfold wA; simp [List.getD_eq_getElem?_getD, show 8 * i + j < 8 * n by omega]
 simp only [lnP, Dv.fresh]
 rw [hw 0 (by decide), hw 1 (by decide), hw 2 (by decide), hw 3 (by decide), hw 4 (by decide), hw 5 (by decide), hw 6 (by decide), hw 7 (by decide)]
 simp [zLn, PLe, PLes]
theorem rNew (n : Nat) (hn : 0 < n ∧ n ≤ 6) : ACalls Tryz.prog 78 [.p (.v (.int .i64 n))] [] (.loc 0 0) [rdO (Dv.fresh n (List.replicate (8 * n) 0)) (fun _ => []) 1, rlO (Dv.fresh n (List.replicate (8 * n) 0))] :=
 acalls_ple (i := 1) (rNew0 n hn) rfl (zLn_le n)
end Go.Proofs.YtckhjklcfagkoaaGreatDoor
