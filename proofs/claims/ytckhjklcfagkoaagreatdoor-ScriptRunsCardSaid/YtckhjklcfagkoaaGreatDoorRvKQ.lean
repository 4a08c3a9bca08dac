/- Contracts of functions of this program, and the plain facts that they rest on. No conditions. -/
import Derived.Test.YtckhjklcfagkoaaGreatDoorJRvJ0Q
import Derived.Test.YtckhjklcfagkoaaGreatDoorJRvHQ
set_option linter.unusedSimpArgs false
set_option linter.unusedVariables false
namespace Go.Proofs.YtckhjklcfagkoaaGreatDoor
set_option maxHeartbeats 4000000
set_option maxRecDepth 100000
open Go Go.Ab
attribute [local irreducible] callK callF loopQ vstep vskip pickE hideP
attribute [local go_sem] rdO rlO lns_len eNd eC setOb
theorem rImage (A : Dv) (M : MT) (h : WF A) (hp : RngL A.per) (c : List UInt8) (hc : c.length ≤ 1000000) : ACalls Tryz.prog 51 [.loc 0 0, .p (.view 1 (c.map eC))] [rdO A M 1, rlO A] (.p (.view 1 (oL (imgC A c) (64 * A.n)))) [rdO A M 1, rlO A] := by
 refine yA (E := E) (fn := Tryz.f51) 48 [.tmp 4] rfl rfl rfl rfl (by decide) rfl rfl ?_
 have h6 := h.n6
 have kd := rDirty A M h
 have hml : ∀ r, r < A.n → A.hist r ≠ [] → kC A ((dirL A A.n).map (gI A c)) r = gI A c r ∧ gI A c r ≤ (A.hist r).length := fun r h1 h2 => ⟨kC_map _ h1 h2, gI_le c h1 h2⟩
 have hlt := dirL_len A A.n
 have kc := rCont A M h hp ((dirL A A.n).map (gI A c)) (by rw [List.length_map]; omega) (kC_le _ _ hml)
 rw [contS_dir (fun r h1 h2 => (hml r h1 h2).1), contS_img h c, List.map_map] at kc
 repeat' (first
  | (with_reducible first | apply zY | apply zT | apply zM | apply zN | apply zO | refine chk_ok (by kernel_rfl) ?_)
  | ((with_reducible first | apply zP | apply zQ | apply zR | apply zL) <;> intro h <;> try (exfalso; first | omega | exact h rfl | (revert h; decide) | (cases h; done)))
  | ((with_reducible show False); omega)
  | ((first | (with_reducible first | apply zW | apply zV | apply zU | apply zS | apply zX | show VX _ _ _ _ _ _ _ | show vstep _ _ _ _ _ | show vskip _ _ _ | show withV _ _) | ((with_reducible show endA _ _ _ _ _ _ _); simp -implicitDefEqProofs only [endA]) | (with_reducible first | refine zB default (by first | omega | (simp only [LN]; omega)) (by first | omega | (simp only [LN]; omega)) ?_ | refine zC default (by first | omega | (simp only [LN]; omega)) ?_ | refine And.intro (by first | decide | omega | assumption | (simp only [LN]; omega)) ?_) | (with_reducible first | apply zG | apply zH | apply zI) | ((with_reducible apply zJ); (first | exact kd | fail)) | ((with_reducible show pickE _ _ _); first | refine zA _ ⟨by omega, by rfl⟩ ?_ | refine zA _ (by rfl) ?_) | fail); try simp -dsimp -implicitDefEqProofs (maxSteps := 1000000) (disch := first | omega | (simp only [LN]; omega)) only [go_sem])
  | fail)
 refine r_loopA (α := Nat) [0, 1, 11, 12] (fun i b => [(5, .sl b 1 0 i), (13, aI i)]) (fun i b => []) (fun i => [.arr 1 (((dirL A A.n).take i).map (eNd ∘ gI A c))]) (fun i => i ≤ (dirL A A.n).length) (fun i => (dirL A A.n).length - i) (0) ?h0_1 ?hs0_1 ?I_1 ?hI_1 ?round_1
 case hI_1 => intro x; (simp -dsimp -implicitDefEqProofs (maxSteps := 1000000) (disch := first | omega | (simp only [LN]; omega)) only [go_sem]) <;> exact rfl
 case hs0_1 => refine wk_auto ?_; (simp -dsimp -implicitDefEqProofs (maxSteps := 1000000) (disch := first | omega | (simp only [LN, List.take_zero, List.map_nil]; omega)) only [go_sem, List.take_zero, List.map_nil]) <;> (try omega)
 case h0_1 => exact Nat.zero_le _
 case round_1 =>
  intro i h1
  have w3 : IntKind.i64.wrap ((i : Int) + 1) = ((i + 1 : Nat) : Int) := by rw [IntKind.wrap_i64]; push_cast; omega
  by_cases hi : i < (dirL A A.n).length
  ·obtain ⟨d1, d2, d3⟩ := dirL_ix hi
   have ht := yE default hi
   have hk0 : kI A c i = (c.getD (i % c.length) default).toNat % ((A.hist ((dirL A A.n).getD i default)).length + 1) := rfl
   obtain ⟨r, hx⟩ : ∃ r, (dirL A A.n).getD i default = r := ⟨_, rfl⟩
   rw [hx] at d1 d2 d3 ht hk0
   have hg := lns_get A d2
   have hl := h.len r (by omega)
   have hll : (((dirL A A.n).take i).map (eNd ∘ gI A c)).length = i := by rw [List.length_map, List.length_take]; omega
   by_cases hz : c.length = 0
   ·have hgi : gI A c r = 0 := if_pos hz
    repeat' (first
     | (with_reducible first | apply zY | apply zT | apply zM | apply zN | apply zO | refine chk_ok (by kernel_rfl) ?_)
     | ((with_reducible first | apply zP | apply zQ | apply zR | apply zL) <;> intro h <;> try (exfalso; first | omega | exact h rfl | (revert h; decide) | (cases h; done)))
     | ((with_reducible show False); omega)
     | ((first | (with_reducible first | apply zW | apply zV | apply zU | apply zS | apply zX | show VX _ _ _ _ _ _ _ | show vstep _ _ _ _ _ | show vskip _ _ _ | show withV _ _) | ((with_reducible show endA _ _ _ _ _ _ _); simp -implicitDefEqProofs only [endA]) | (with_reducible first | refine zB default (by first | omega | (simp only [LN, hx, hg, lnP, w3]; omega)) (by first | omega | (simp only [LN, hx, hg, lnP, w3]; omega)) ?_ | refine zC default (by first | omega | (simp only [LN, hx, hg, lnP, w3]; omega)) ?_ | refine And.intro (by first | decide | omega | assumption | (simp only [LN, hx, hg, lnP, w3]; omega)) ?_) | ((with_reducible show pickE _ _ _); first | refine zA _ ⟨by omega, by rfl⟩ ?_ | refine zA _ (by rfl) ?_) | fail); try simp -dsimp -implicitDefEqProofs (maxSteps := 1000000) (disch := first | omega | (simp only [LN, hx, hg, lnP, w3]; omega)) only [go_sem, hx, hg, lnP, w3])
     | fail)
    all_goals first | omega | ((refine zZ (i + 1) ?_ ?_ ?_; (omega); (show _ < _; omega); (simp -dsimp -implicitDefEqProofs (maxSteps := 1000000) (disch := first | omega | (simp only [LN, ht, List.map_append]; omega)) only [go_sem, ht, List.map_append]; try trivial)); exact .inl (by simp [eNd, hgi]))
   ·have hgi : gI A c r = kI A c i := by unfold gI; rw [if_neg hz, d3]
    have e1 : (i : Int).tmod c.length = ((i % c.length : Nat) : Int) := (Int.ofNat_tmod _ _).symm
    have e2 : i % c.length < c.length := Nat.mod_lt _ (by omega)
    have e3 : IntKind.i64.wrap ((c.getD (i % c.length) default).toNat : Int) = ((c.getD (i % c.length) default).toNat : Int) := by
     have := (c.getD (i % c.length) default).toNat_lt; rw [IntKind.wrap_i64]; omega
    have e4 : IntKind.i64.wrap (((A.hist r).length : Int) + 1) = (((A.hist r).length + 1 : Nat) : Int) := by rw [IntKind.wrap_i64]; omega
    have e5 : ((c.getD (i % c.length) default).toNat : Int).tmod (((A.hist r).length + 1 : Nat) : Int) = ((kI A c i : Nat) : Int) := by rw [hk0]; exact (Int.ofNat_tmod _ _).symm
    have e6 : ((c.getD (i % c.length) default).toNat : Int).tmod (((A.hist r).length : Int) + 1) = ((kI A c i : Nat) : Int) := e5
    have e7 : IntKind.i64.wrap ((i % c.length : Nat) : Int) = ((i % c.length : Nat) : Int) := by rw [IntKind.wrap_i64]; omega
    have e8 : kI A c i ≤ (A.hist r).length := by rw [← hgi]; exact gI_le c d2 d1
    have e9 : IntKind.i64.wrap ((kI A c i : Nat) : Int) = ((kI A c i : Nat) : Int) := by rw [IntKind.wrap_i64]; omega
    repeat' (first
     | (with_reducible first | apply zY | apply zT | apply zM | apply zN | apply zO | refine chk_ok (by kernel_rfl) ?_)
     | ((with_reducible first | apply zP | apply zQ | apply zR | apply zL) <;> intro h <;> try (exfalso; first | omega | exact h rfl | (revert h; decide) | (cases h; done)))
     | ((with_reducible show False); omega)
     | ((first | (with_reducible first | apply zW | apply zV | apply zU | apply zS | apply zX | show VX _ _ _ _ _ _ _ | show vstep _ _ _ _ _ | show vskip _ _ _ | show withV _ _) | ((with_reducible show endA _ _ _ _ _ _ _); simp -implicitDefEqProofs only [endA]) | (with_reducible first | refine zB default (by first | omega | (simp only [LN, hx, hg, lnP, w3, e1, e3, e4, e5, e6, e7, e9]; omega)) (by first | omega | (simp only [LN, hx, hg, lnP, w3, e1, e3, e4, e5, e6, e7, e9]; omega)) ?_ | refine zC default (by first | omega | (simp only [LN, hx, hg, lnP, w3, e1, e3, e4, e5, e6, e7, e9]; omega)) ?_ | refine And.intro (by first | decide | omega | assumption | (simp only [LN, hx, hg, lnP, w3, e1, e3, e4, e5, e6, e7, e9]; omega)) ?_) | ((with_reducible show pickE _ _ _); first | refine zA _ ⟨by omega, by rfl⟩ ?_ | refine zA _ (by rfl) ?_) | fail); try simp -dsimp -implicitDefEqProofs (maxSteps := 1000000) (disch := first | omega | (simp only [LN, hx, hg, lnP, w3, e1, e3, e4, e5, e6, e7, e9]; omega)) only [go_sem, hx, hg, lnP, w3, e1, e3, e4, e5, e6, e7, e9])
     | fail)
    all_goals first | omega | ((refine zZ (i + 1) ?_ ?_ ?_; (omega); (show _ < _; omega); (simp -dsimp -implicitDefEqProofs (maxSteps := 1000000) (disch := first | omega | (simp only [LN, ht, List.map_append]; omega)) only [go_sem, ht, List.map_append]; try trivial)); exact .inl (by simp [eNd, hgi]))
  ·obtain rfl : i = (dirL A A.n).length := by omega
   have hl : (((dirL A A.n)).map (eNd ∘ gI A c)).length = (dirL A A.n).length := by rw [List.length_map]
   rw [List.take_length]
   repeat' ((fail_if_success (with_reducible show awp _ _ (Code.region 10 _ _) _ _)); first
    | (with_reducible first | apply zY | apply zT | apply zM | apply zN | apply zO | refine chk_ok (by kernel_rfl) ?_)
    | ((with_reducible first | apply zP | apply zQ | apply zR | apply zL) <;> intro h <;> try (exfalso; first | omega | exact h rfl | (revert h; decide) | (cases h; done)))
    | ((with_reducible show False); omega)
    | ((first | (with_reducible first | apply zW | apply zV | apply zU | apply zS | apply zX | show VX _ _ _ _ _ _ _ | show vstep _ _ _ _ _ | show vskip _ _ _ | show withV _ _) | ((with_reducible show endA _ _ _ _ _ _ _); simp -implicitDefEqProofs only [endA]) | (with_reducible first | refine zB default (by first | omega | (simp only [LN]; omega)) (by first | omega | (simp only [LN]; omega)) ?_ | refine zC default (by first | omega | (simp only [LN]; omega)) ?_ | refine And.intro (by first | decide | omega | assumption | (simp only [LN]; omega)) ?_) | ((with_reducible show pickE _ _ _); first | refine zA _ ⟨by omega, by rfl⟩ ?_ | refine zA _ (by rfl) ?_) | fail); try simp -dsimp -implicitDefEqProofs (maxSteps := 1000000) (disch := first | omega | (simp only [LN]; omega)) only [go_sem])
    | fail)
   refine r_frz [0] (fun b => [(5, .p (.view 1 ((dirL A A.n).map (eNd ∘ gI A c))))]) fun I hI => ?_
   simp -dsimp -implicitDefEqProofs (maxSteps := 1000000) (disch := first | omega | (simp only [LN]; omega)) only [go_sem] at hI
   subst hI
   refine And.intro ?_ ?_
   ·(simp -dsimp -implicitDefEqProofs (maxSteps := 1000000) (disch := first | omega | (simp only [LN, hl]; omega)) only [go_sem, hl]) <;> (try omega)
   repeat' (first
    | (with_reducible first | apply zY | apply zT | apply zM | apply zN | apply zO | refine chk_ok (by kernel_rfl) ?_)
    | ((with_reducible first | apply zP | apply zQ | apply zR | apply zL) <;> intro h <;> try (exfalso; first | omega | exact h rfl | (revert h; decide) | (cases h; done)))
    | ((with_reducible show False); omega)
    | ((first | (with_reducible first | apply zW | apply zV | apply zU | apply zS | apply zX | show VX _ _ _ _ _ _ _ | show vstep _ _ _ _ _ | show vskip _ _ _ | show withV _ _) | ((with_reducible show endA _ _ _ _ _ _ _); simp -implicitDefEqProofs only [endA]) | (with_reducible first | refine zB default (by first | omega | (simp only [LN]; omega)) (by first | omega | (simp only [LN]; omega)) ?_ | refine zC default (by first | omega | (simp only [LN]; omega)) ?_ | refine And.intro (by first | decide | omega | assumption | (simp only [LN]; omega)) ?_) | (with_reducible first | apply zG | apply zH | apply zI) | ((with_reducible apply zJ); (first | exact kc | fail)) | ((with_reducible show pickE _ _ _); first | refine zA _ ⟨by omega, by rfl⟩ ?_ | refine zA _ (by rfl) ?_) | fail); try simp -dsimp -implicitDefEqProofs (maxSteps := 1000000) (disch := first | omega | (simp only [LN]; omega)) only [go_sem])
    | fail)
   all_goals first | omega | rfl
theorem fW_0' (p : List UInt8) (m : Nat) : List.replicate m 0 = fW p m 0 := by
 unfold fW
 apply List.ext_getElem (by simp)
 intro i h1 h2
 simp [wrdU]
theorem wrd_add (a b q i : Nat) (hq : (2 : Int) ^ i = (q : Int)) (h1 : b < 256) (h3 : a + b * q < 18446744073709551616) :
  IntKind.u64.wrap ((a : Int) + IntKind.u64.wrap (IntKind.u64.wrap (b : Int) * 2 ^ i)) = ((a + b * q : Nat) : Int) := by
 have e1 : IntKind.u64.wrap (b : Int) = b := by rw [IntKind.wrap_u64]; omega
 have e2 : (b : Int) * 2 ^ i = ((b * q : Nat) : Int) := by rw [hq, Int.natCast_mul]
 rw [e1, e2]
 generalize b * q = x at *
 have e3 : IntKind.u64.wrap (x : Int) = x := by rw [IntKind.wrap_u64]; omega
 rw [e3, IntKind.wrap_u64]
 omega
theorem rFrom (p : List UInt8) (n : Nat) (hp : p.length = 64 * n) (hn : 0 < n ∧ n ≤ 6) : ACalls Tryz.prog 50 [.p (.view 1 (p.map eC))] [] (.loc 0 0) [rdO (Dv.fresh n (fW p (8 * n) p.length)) (fun _ => []) 1, rlO (Dv.fresh n (fW p (8 * n) p.length))] := by
 refine yA (E := E) (fn := Tryz.f50) 44 [.tmp 2] rfl rfl rfl rfl (by decide) rfl rfl ?_
 have kn := rNew n hn
 have e2 : IntKind.i64.wrap ((p.length : Int).tdiv 64) = (n : Int) := by rw [show ((p.length : Int).tdiv 64) = ((p.length / 64 : Nat) : Int) from rfl, IntKind.wrap_i64]; omega
 have e7 : ((p.length : Int).tdiv 64) = (n : Int) := by rw [show ((p.length : Int).tdiv 64) = ((p.length / 64 : Nat) : Int) from rfl]; omega
 repeat' (first
  | (with_reducible first | apply zY | apply zT | apply zM | apply zN | apply zO | refine chk_ok (by kernel_rfl) ?_)
  | ((with_reducible first | apply zP | apply zQ | apply zR | apply zL) <;> intro h <;> try (exfalso; first | omega | exact h rfl | (revert h; decide) | (cases h; done)))
  | ((with_reducible show False); omega)
  | ((first | (with_reducible first | apply zW | apply zV | apply zU | apply zS | apply zX | show VX _ _ _ _ _ _ _ | show vstep _ _ _ _ _ | show vskip _ _ _ | show withV _ _) | ((with_reducible show endA _ _ _ _ _ _ _); simp -implicitDefEqProofs only [endA]) | (with_reducible first | refine zB default (by first | omega | (simp only [LN, e2, e7]; omega)) (by first | omega | (simp only [LN, e2, e7]; omega)) ?_ | refine zC default (by first | omega | (simp only [LN, e2, e7]; omega)) ?_ | refine And.intro (by first | decide | omega | assumption | (simp only [LN, e2, e7]; omega)) ?_) | (with_reducible first | apply zG | apply zH | apply zI) | ((with_reducible apply zJ); (first | exact kn | fail)) | ((with_reducible show pickE _ _ _); first | refine zA _ ⟨by omega, by rfl⟩ ?_ | refine zA _ (by rfl) ?_) | fail); try simp -dsimp -implicitDefEqProofs (maxSteps := 1000000) (disch := first | omega | (simp only [LN, e2, e7]; omega)) only [go_sem, e2, e7])
  | fail)
 refine r_loopS (α := Nat) [0, 3] (fun i b => [(4, aI i)]) (fun i b => []) (fun i => []) (fun i => [(1, rlO (Dv.fresh n (fW p (8 * n) i)))]) (fun i => i ≤ p.length) (fun i => p.length - i) (0) ?_ ?_ ?_ ?_ ?_
 rotate_left 3
 ·intro x; (simp -dsimp -implicitDefEqProofs (maxSteps := 1000000) (disch := first | omega | (simp only [LN]; omega)) only [go_sem]) <;> exact rfl
 rotate_left 2
 ·refine wk_auto ?_; (simp -dsimp -implicitDefEqProofs (maxSteps := 1000000) (disch := first | omega | (simp only [LN, fW_0' p (8 * n)]; omega)) only [go_sem, fW_0' p (8 * n)]) <;> (try omega)
 rotate_left 1
 ·exact Nat.zero_le _
 ·intro i h1
  by_cases hi : i < p.length
  ·have a1 : IntKind.i64.wrap ((i : Int).tdiv 64) = ((i / 64 : Nat) : Int) := by rw [show ((i : Int).tdiv 64) = ((i / 64 : Nat) : Int) from rfl, IntKind.wrap_i64]; omega
   have a2 : ((i : Int).tdiv 64) = ((i / 64 : Nat) : Int) := rfl
   have a3 : (i : Int).tmod 64 = ((i % 64 : Nat) : Int) := rfl
   obtain ⟨m, hm8, hm⟩ : ∃ m : Nat, m < 8 ∧ i % 64 / 8 = m := ⟨i % 64 / 8, by omega, rfl⟩
   have a4 : ((i % 64 : Nat) : Int).tdiv 8 = (m : Int) := by rw [show ((i % 64 : Nat) : Int).tdiv 8 = ((i % 64 / 8 : Nat) : Int) from rfl, hm]
   have a5 : IntKind.i64.wrap (m : Int) = m := by rw [IntKind.wrap_i64]; omega
   have hq8 : 8 * (i / 64) + m = i / 8 := by omega
   have hin : i / 64 < n := by omega
   have hg := lns_get (Dv.fresh n (fW p (8 * n) i)) (r := i / 64) hin
   have w3 : IntKind.i64.wrap ((i : Int) + 1) = ((i + 1 : Nat) : Int) := by rw [IntKind.wrap_i64]; push_cast; omega
   have b2 : (i : Int).tmod 8 = ((i % 8 : Nat) : Int) := rfl
   have b3 : IntKind.i64.wrap (((i % 8 : Nat) : Int) * 8) = ((i % 8 * 8 : Nat) : Int) := by rw [IntKind.wrap_i64]; omega
   have b5 : (IntKind.u64.wrap ((i % 8 * 8 : Nat) : Int)).toNat = i % 8 * 8 := by rw [IntKind.wrap_u64]; omega
   have b6 : min (i % 8 * 8) 64 = i % 8 * 8 := by omega
   have hq := wrdU_lt p (8 * (i / 8)) (i % 8 + 1)
   have h4 : (256 : Nat) ^ (i % 8 + 1) ≤ 256 ^ 8 := Nat.pow_le_pow_right (by decide) (by omega)
   have h5 : (256 : Nat) ^ 8 = 18446744073709551616 := by decide
   have b7 := wrd_add (wrdU p (8 * (i / 8)) (i % 8)) (bytU p (8 * (i / 8)) (i % 8)) (256 ^ (i % 8)) (i % 8 * 8) (by rw [Nat.mul_comm]; exact pow8U _) (bytU_lt _ _ _) (Nat.lt_of_lt_of_le hq (h5 ▸ h4))
   have hfg : ∀ k j, j < 8 * n → (fW p (8 * n) k).getD j 0 = ((wrdU p (8 * j) (min 8 (k - 8 * j)) : Nat) : Int) := fun k j hj => fW_get _ _ _ _ hj 0
   have b8 : (fW p (8 * n) i).getD (8 * (i / 64) + m) 0 = ((wrdU p (8 * (i / 8)) (i % 8) : Nat) : Int) := by
    rw [hq8, hfg _ _ (by omega), show min 8 (i - 8 * (i / 8)) = i % 8 by omega]
   have b9 : (p.getD i default).toNat = bytU p (8 * (i / 8)) (i % 8) := by unfold bytU; rw [show 8 * (i / 8) + i % 8 = i by omega]; rfl
   have f1 : (fW p (8 * n) (i + 1)).getD (8 * (i / 64) + m) 0 = ((wrdU p (8 * (i / 8)) (i % 8 + 1) : Nat) : Int) := by
    rw [hq8, hfg _ _ (by omega), show min 8 (i + 1 - 8 * (i / 8)) = i % 8 + 1 by omega]
   have f2 : ∀ j, j < 8 * n → j ≠ 8 * (i / 64) + m → (fW p (8 * n) (i + 1)).getD j 0 = (fW p (8 * n) i).getD j 0 := by
    intro j hj hne
    rw [hfg _ _ hj, hfg _ _ hj]
    by_cases hl : j < i / 8
    ·rw [show min 8 (i - 8 * j) = 8 by omega, show min 8 (i + 1 - 8 * j) = 8 by omega]
    ·rw [show min 8 (i - 8 * j) = 0 by omega, show min 8 (i + 1 - 8 * j) = 0 by omega]
   have ho : ∀ q, q < n → q ≠ i / 64 → lnP (Dv.fresh n (fW p (8 * n) (i + 1))) q = lnP (Dv.fresh n (fW p (8 * n) i)) q := by
    intro q hq1 hq2
    have hw : ∀ j, j < 8 → wA (fW p (8 * n) (i + 1)) q j = wA (fW p (8 * n) i) q j := fun j hj => by
     unfold wA; rw [f2 _ (by omega) (by omega)]
    simp only [lnP, Dv.fresh]
    rw [hw 0 (by decide), hw 1 (by decide), hw 2 (by decide), hw 3 (by decide), hw 4 (by decide), hw 5 (by decide), hw 6 (by decide), hw 7 (by decide)]
   have fper : ∀ ws, (Dv.fresh n ws).per = ws := fun _ => rfl
   rw [show wrdU p (8 * (i / 8)) (i % 8 + 1) = wrdU p (8 * (i / 8)) (i % 8) + bytU p (8 * (i / 8)) (i % 8) * 256 ^ (i % 8) from rfl] at f1
   have fn : ∀ ws, (Dv.fresh n ws).n = n := fun _ => rfl
   have c1 : ((i : Int) / 64).toNat = i / 64 := by omega
   rcases lt8 hm8 with rfl | rfl | rfl | rfl | rfl | rfl | rfl | rfl
   all_goals
    repeat' (first
     | (with_reducible first | apply zY | apply zT | apply zM | apply zN | apply zO | refine chk_ok (by kernel_rfl) ?_)
     | ((with_reducible first | apply zP | apply zQ | apply zR | apply zL) <;> intro h <;> try (exfalso; first | omega | exact h rfl | (revert h; decide) | (cases h; done)))
     | ((with_reducible show False); omega)
     | ((first | (with_reducible first | apply zW | apply zV | apply zU | apply zS | apply zX | show VX _ _ _ _ _ _ _ | show vstep _ _ _ _ _ | show vskip _ _ _ | show withV _ _) | ((with_reducible show endA _ _ _ _ _ _ _); simp -implicitDefEqProofs only [endA]) | (with_reducible first | refine zB default (by first | omega | (simp only [LN, fn, c1, a1, a2, a3, a4, a5, hg, lnP, wA, w3, b2, b3, b5, b6, b8, b9]; omega)) (by first | omega | (simp only [LN, fn, c1, a1, a2, a3, a4, a5, hg, lnP, wA, w3, b2, b3, b5, b6, b8, b9]; omega)) ?_ | refine zC default (by first | omega | (simp only [LN, fn, c1, a1, a2, a3, a4, a5, hg, lnP, wA, w3, b2, b3, b5, b6, b8, b9]; omega)) ?_ | refine And.intro (by first | decide | omega | assumption | (simp only [LN, fn, c1, a1, a2, a3, a4, a5, hg, lnP, wA, w3, b2, b3, b5, b6, b8, b9]; omega)) ?_) | ((with_reducible show pickE _ _ _); first | refine zA _ ⟨by omega, by rfl⟩ ?_ | refine zA _ (by rfl) ?_) | fail); try simp -dsimp -implicitDefEqProofs (maxSteps := 1000000) (disch := first | omega | (simp only [LN, fn, c1, a1, a2, a3, a4, a5, hg, lnP, wA, w3, b2, b3, b5, b6, b8, b9]; omega)) only [go_sem, fn, c1, a1, a2, a3, a4, a5, hg, lnP, wA, w3, b2, b3, b5, b6, b8, b9])
     | fail)
    all_goals (refine zZ (i + 1) ?_ ?_ ?_; (omega); (show _ < _; omega); (simp -dsimp -implicitDefEqProofs (maxSteps := 1000000) (disch := first | omega | (simp only [LN, fn, c1]; omega)) only [go_sem, fn, c1]; try trivial))
    all_goals
     refine .inl (lns_set (A := Dv.fresh n (fW p (8 * n) i)) (B := Dv.fresh n (fW p (8 * n) (i + 1))) rfl ?_ ho)
     try simp only [Nat.add_zero] at f1 f2 b8
     simp (disch := omega) only [lnP, wA, fper, f2, f1, b8, b7, Nat.add_zero]
     rfl
  ·obtain rfl : i = p.length := by omega
   repeat' (first
    | (with_reducible first | apply zY | apply zT | apply zM | apply zN | apply zO | refine chk_ok (by kernel_rfl) ?_)
    | ((with_reducible first | apply zP | apply zQ | apply zR | apply zL) <;> intro h <;> try (exfalso; first | omega | exact h rfl | (revert h; decide) | (cases h; done)))
    | ((with_reducible show False); omega)
    | ((first | (with_reducible first | apply zW | apply zV | apply zU | apply zS | apply zX | show VX _ _ _ _ _ _ _ | show vstep _ _ _ _ _ | show vskip _ _ _ | show withV _ _) | ((with_reducible show endA _ _ _ _ _ _ _); simp -implicitDefEqProofs only [endA]) | (with_reducible first | refine zB default (by first | omega | (simp only [LN]; omega)) (by first | omega | (simp only [LN]; omega)) ?_ | refine zC default (by first | omega | (simp only [LN]; omega)) ?_ | refine And.intro (by first | decide | omega | assumption | (simp only [LN]; omega)) ?_) | ((with_reducible show pickE _ _ _); first | refine zA _ ⟨by omega, by rfl⟩ ?_ | refine zA _ (by rfl) ?_) | fail); try simp -dsimp -implicitDefEqProofs (maxSteps := 1000000) (disch := first | omega | (simp only [LN]; omega)) only [go_sem])
    | fail)
   all_goals first | omega | (simp [Dv.fresh, leftR]; done)
end Go.Proofs.YtckhjklcfagkoaaGreatDoor
