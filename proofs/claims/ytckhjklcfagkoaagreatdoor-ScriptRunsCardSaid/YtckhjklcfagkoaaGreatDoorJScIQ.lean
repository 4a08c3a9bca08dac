/- Contracts of functions of this program, and the plain facts that they rest on. No conditions. -/
import Derived.Test.YtckhjklcfagkoaaGreatDoorScHQ
import Derived.Test.YtckhjklcfagkoaaGreatDoorJDvPQ
import Derived.Test.YtckhjklcfagkoaaGreatDoorScMQ
set_option linter.unusedSimpArgs false
set_option linter.unusedVariables false
namespace Go.Proofs.YtckhjklcfagkoaaGreatDoor
set_option maxHeartbeats 4000000
set_option maxRecDepth 100000
open Go Go.Ab
attribute [local irreducible] callK callF loopQ vstep vskip pickE hideP
open Go.RowKit
attribute [local go_sem] eE eT bs_inj ext_bs byteAt_bs
theorem tx_hd {x : Ev} (h : okE x = true) : ¬ txE x = [] ∧ ¬ ((txE x).getD 0 0).toNat = 35 := by
 have hk := okE_t h
 have hks : x.k = 1 ∨ x.k = 2 ∨ x.k = 3 ∨ x.k = 4 ∨ x.k = 5 ∨ x.k = 6 ∨ x.k = 7 := by unfold okK at hk; omega
 rcases hks with h | h | h | h | h | h | h <;> simp [txE, wsE, joinL, h]
theorem txL_drop {vs : List Ev} {j : Nat} (h : j < vs.length) (hv : okE (vs.getD j default) = true) : txL (vs.drop j) = txE (vs.getD j default) ++ 10 :: txL (vs.drop (j + 1)) := by
 have e : vs.getD j default = vs[j] := by simp [List.getD_eq_getElem?_getD, h]
 rw [List.drop_eq_getElem_cons h, txL, ← e, lnE, hv, if_pos rfl, List.append_assoc]; rfl
theorem txL_nil : txL [] = [] := rfl
theorem map_take1 {vs : List Ev} {j : Nat} (h : j < vs.length) : (vs.take (j + 1)).map eE = (vs.take j).map eE ++ [eE (vs.getD j default)] := by
 rw [yE default h, List.map_append]; rfl
theorem getD_all {p : Ev → Prop} {vs : List Ev} (h : ∀ x, x ∈ vs → p x) {j : Nat} (hj : j < vs.length) : p (vs.getD j default) := by
 have e : vs.getD j default = vs[j] := by simp [List.getD_eq_getElem?_getD, hj]
 rw [e]; exact h _ (List.getElem_mem hj)
attribute [local irreducible] txL txE
theorem sParse (vs : List Ev) (hR : ∀ x, x ∈ vs → Rng x) (hv : ∀ x, x ∈ vs → okE x = true) (hn : vs.length ≤ 1000) : PCalls Tryz.prog 26 [.v (.string (bs (txL vs)))] (.tup [.view 8 (vs.map eE), .v (.int .i64 0), .v (.int .i64 0)]) := by
 refine yB (E := E) (fn := Tryz.f26) 46 [.tmp 2, .tmp 3, .tmp 4] rfl rfl rfl rfl (by decide) rfl ?_
 repeat' (first
  | (with_reducible first | apply zY | apply zT | apply zM | apply zN | apply zO | refine chk_ok (by kernel_rfl) ?_)
  | ((with_reducible first | apply zP | apply zQ | apply zR | apply zL) <;> intro h)
  | ((with_reducible show False); omega)
  | ((first | (with_reducible first | apply zW | apply zV | apply zU | apply zS | apply zX | show VX _ _ _ _ _ _ _ | show vstep _ _ _ _ _ | show vskip _ _ _ | show withV _ _) | ((with_reducible show endA _ _ _ _ _ _ _); simp -implicitDefEqProofs only [endA]) | (with_reducible first | refine zB default (by first | omega | (simp only [LN]; omega)) (by first | omega | (simp only [LN]; omega)) ?_ | refine zC default (by first | omega | (simp only [LN]; omega)) ?_ | refine And.intro (by first | decide | omega | assumption | (simp only [LN]; omega)) ?_) | ((with_reducible show pickE _ _ _); first | refine zA _ ⟨by omega, by rfl⟩ ?_ | refine zA _ (by rfl) ?_) | fail); try simp -dsimp -implicitDefEqProofs (maxSteps := 1000000) (disch := first | omega | (simp only [LN]; omega)) only [go_sem])
  | fail)
 refine r_loopA (α := Nat × Bool × Nat) [] (fun q b => [(5, .sl b 8 0 q.1), (6, .p (.v (.string (bs (txL (vs.drop q.1)))))), (7, .p (.v (.bool q.2.1))), (8, aI q.2.2)]) (fun q b => []) (fun q => [.arr 8 ((vs.take q.1).map eE)]) (fun q => q.1 ≤ vs.length ∧ (q.2.1 = false → q.1 = vs.length) ∧ q.2.2 + q.2.1.toNat ≤ q.1 + 2) (fun q => 2 * (vs.length - q.1) + q.2.1.toNat) ((0, true, 1)) ?h0_1 ?hs0_1 ?I_1 ?hI_1 ?round_1
 case hI_1 => intro x; (simp -dsimp -implicitDefEqProofs (maxSteps := 1000000) (disch := first | omega | (simp only [LN]; omega)) only [go_sem]) <;> exact rfl
 case hs0_1 => refine wk_auto ?_; (simp -dsimp -implicitDefEqProofs (maxSteps := 1000000) (disch := first | omega | (simp only [LN, List.take_zero, List.drop_zero]; omega)) only [go_sem, List.take_zero, List.drop_zero]) <;> (try omega)
 case h0_1 => exact ⟨Nat.zero_le _, fun h => Bool.noConfusion h, by decide⟩
 case round_1 =>
  rintro ⟨j, m, a⟩ ⟨h1, h2, h3⟩
  dsimp only at h1 h2 h3
  have hpos := fun (x : Ev) (h : ¬ txE x = []) => List.length_pos_iff.2 h
  have htl := txL_len (vs.drop (j + 1)) (fun x hx => hR x (List.mem_of_mem_drop hx))
  rw [List.length_drop] at htl
  cases m with
  | false =>
   obtain rfl := h2 rfl
   have ht := List.take_length (l := vs)
   repeat' (first
    | (with_reducible first | apply zY | apply zT | apply zM | apply zN | apply zO | refine chk_ok (by kernel_rfl) ?_)
    | ((with_reducible first | apply zP | apply zQ | apply zR | apply zL) <;> intro h <;> try (exfalso; first | omega | exact h rfl | (revert h; decide) | (cases h; done)))
    | ((with_reducible show False); omega)
    | ((first | (with_reducible first | apply zW | apply zV | apply zU | apply zS | apply zX | show VX _ _ _ _ _ _ _ | show vstep _ _ _ _ _ | show vskip _ _ _ | show withV _ _) | ((with_reducible show endA _ _ _ _ _ _ _); simp -implicitDefEqProofs only [endA]) | (with_reducible first | refine zB default (by first | omega | (simp only [LN, ht]; omega)) (by first | omega | (simp only [LN, ht]; omega)) ?_ | refine zC default (by first | omega | (simp only [LN, ht]; omega)) ?_ | refine And.intro (by first | decide | omega | assumption | (simp only [LN, ht]; omega)) ?_) | ((with_reducible show pickE _ _ _); first | refine zA _ ⟨by omega, by rfl⟩ ?_ | refine zA _ (by rfl) ?_) | fail); try simp -dsimp -implicitDefEqProofs (maxSteps := 1000000) (disch := first | omega | (simp only [LN, ht]; omega)) only [go_sem, ht])
    | fail)
   all_goals first | rfl | omega
  | true =>
   by_cases hj : j < vs.length
   ·have hvx := getD_all hv hj
    have hRx := getD_all hR hj
    have hs := txL_drop hj hvx
    have hle := txE_len hvx hRx
    have hm := map_take1 hj
    obtain ⟨hne, h35⟩ := tx_hd hvx
    have hp0 := hpos _ hne
    simp only [Bool.toNat_true] at h3
    have kc := lCutH (txE (vs.getD j default)) (txL (vs.drop (j + 1))) 10 (txE_ns _) (by omega)
    have kp := sLine (vs.getD j default) hRx hvx
    generalize vs.getD j default = x at *
    repeat' (first
     | (with_reducible first | apply zY | apply zT | apply zM | apply zN | apply zO | refine chk_ok (by kernel_rfl) ?_)
     | ((with_reducible first | apply zP | apply zQ | apply zR | apply zL) <;> intro h <;> try (exfalso; first | omega | exact h rfl | (revert h; decide) | (cases h; done)))
     | ((with_reducible show False); omega)
     | ((first | (with_reducible first | apply zW | apply zV | apply zU | apply zS | apply zX | show VX _ _ _ _ _ _ _ | show vstep _ _ _ _ _ | show vskip _ _ _ | show withV _ _) | ((with_reducible show endA _ _ _ _ _ _ _); simp -implicitDefEqProofs only [endA]) | (with_reducible first | refine zB default (by first | omega | (simp only [LN, hs, hne, h35]; omega)) (by first | omega | (simp only [LN, hs, hne, h35]; omega)) ?_ | refine zC default (by first | omega | (simp only [LN, hs, hne, h35]; omega)) ?_ | refine And.intro (by first | decide | omega | assumption | (simp only [LN, hs, hne, h35]; omega)) ?_) | ((with_reducible apply zD); (first | exact kc | exact kp | fail)) | ((with_reducible apply zE); (first | exact kc | exact kp | fail); rfl) | ((with_reducible apply zF); (first | exact kc | exact kp | fail)) | ((with_reducible show pickE _ _ _); first | refine zA _ ⟨by omega, by rfl⟩ ?_ | refine zA _ (by rfl) ?_) | fail); try simp -dsimp -implicitDefEqProofs (maxSteps := 1000000) (disch := first | omega | (simp only [LN, hs, hne, h35]; omega)) only [go_sem, hs, hne, h35])
     | fail)
    all_goals first | omega | contradiction | (refine zZ (j + 1, true, a + 1) ⟨by show j + 1 ≤ _; omega, fun h => Bool.noConfusion h, by show a + 1 + 1 ≤ j + 1 + 2; omega⟩ (by show 2 * (vs.length - (j + 1)) + 1 < 2 * (vs.length - j) + 1; omega) ?_; (simp -dsimp -implicitDefEqProofs (maxSteps := 1000000) (disch := first | omega | (simp only [LN, hm]; omega)) only [go_sem, hm]; try trivial))
   ·obtain rfl : j = vs.length := by omega
    simp only [Bool.toNat_true] at h3
    have e0 : txL (vs.drop vs.length) = [] := by rw [List.drop_length]; exact txL_nil
    have kc := lCutM [] 10 (by simp) (by decide)
    repeat' (first
     | (with_reducible first | apply zY | apply zT | apply zM | apply zN | apply zO | refine chk_ok (by kernel_rfl) ?_)
     | ((with_reducible first | apply zP | apply zQ | apply zR | apply zL) <;> intro h <;> try (exfalso; first | omega | exact h rfl | (revert h; decide) | (cases h; done)))
     | ((with_reducible show False); omega)
     | ((first | (with_reducible first | apply zW | apply zV | apply zU | apply zS | apply zX | show VX _ _ _ _ _ _ _ | show vstep _ _ _ _ _ | show vskip _ _ _ | show withV _ _) | ((with_reducible show endA _ _ _ _ _ _ _); simp -implicitDefEqProofs only [endA]) | (with_reducible first | refine zB default (by first | omega | (simp only [LN, e0]; omega)) (by first | omega | (simp only [LN, e0]; omega)) ?_ | refine zC default (by first | omega | (simp only [LN, e0]; omega)) ?_ | refine And.intro (by first | decide | omega | assumption | (simp only [LN, e0]; omega)) ?_) | ((with_reducible apply zD); (exact kc)) | ((with_reducible apply zE); (exact kc); rfl) | ((with_reducible apply zF); (exact kc)) | ((with_reducible show pickE _ _ _); first | refine zA _ ⟨by omega, by rfl⟩ ?_ | refine zA _ (by rfl) ?_) | fail); try simp -dsimp -implicitDefEqProofs (maxSteps := 1000000) (disch := first | omega | (simp only [LN, e0]; omega)) only [go_sem, e0])
     | fail)
    all_goals first | omega | (exact absurd rfl h) | (refine zZ (vs.length, false, a + 1) ⟨Nat.le_refl _, fun _ => rfl, by show a + 1 + 0 ≤ vs.length + 2; omega⟩ (by show 2 * (vs.length - vs.length) + 0 < 2 * (vs.length - vs.length) + 1; omega) ?_; (simp -dsimp -implicitDefEqProofs (maxSteps := 1000000) (disch := first | omega | (simp only [LN, e0]; omega)) only [go_sem, e0]; try trivial))
end Go.Proofs.YtckhjklcfagkoaaGreatDoor
namespace Go.Proofs.YtckhjklcfagkoaaGreatDoor
open Go Go.Ab
attribute [local irreducible] callK callF loopQ vstep vskip pickE hideP
set_option maxRecDepth 100000
theorem wrdU_dig (l : List UInt8) (o k : Nat) : ∀ K, k < K → wrdU l o K / 256 ^ k % 256 = bytU l o k
 | 0, h => absurd h (by omega)
 | K + 1, h => by
  have hb := bytU_lt l o k
  rw [wrdU]
  by_cases e : k = K
  ·subst e
   rw [Nat.add_mul_div_right _ _ (Nat.pow_pos (by decide)), Nat.div_eq_of_lt (wrdU_lt l o k)]; omega
  ·have hlt : k < K := by omega
   have e2 : 256 ^ K = 256 ^ (K - k - 1) * 256 * 256 ^ k := by rw [← Nat.pow_succ, ← Nat.pow_add]; congr 1; omega
   rw [e2, ← Nat.mul_assoc, Nat.add_mul_div_right _ _ (Nat.pow_pos (by decide)), ← Nat.mul_assoc, Nat.add_mul_mod_self_right]
   exact wrdU_dig l o k K hlt
theorem pB_fW (p : List UInt8) (n m : Nat) (hp : p.length = 64 * n) (hm : m = 64 * n) : pB (fW p (8 * n) m) m = p := by
 subst hm
 unfold pB
 refine List.ext_getElem (by simp; omega) fun j h1 h2 => ?_
 simp only [List.length_map, List.length_range] at h1
 simp only [List.getElem_map, List.getElem_range]
 unfold byW
 rw [fW_get _ _ _ _ (by omega), show min 8 (64 * n - 8 * (j / 8)) = 8 by omega]
 have e := wrdU_dig p (8 * (j / 8)) (j % 8) 8 (by omega)
 have e2 : bytU p (8 * (j / 8)) (j % 8) = (p[j]).toNat := by
  unfold bytU
  rw [show 8 * (j / 8) + j % 8 = j by omega, List.getD_eq_getElem?_getD, List.getElem?_eq_getElem (by omega)]; rfl
 have e3 : (2 : Int) ^ (j % 8 * 8) = ((256 ^ (j % 8) : Nat) : Int) := by rw [Nat.mul_comm]; exact pow8U _
 rw [e3, IntKind.wrap_u8]
 have e4 : ((wrdU p (8 * (j / 8)) 8 : Nat) : Int) / ((256 ^ (j % 8) : Nat) : Int) % 256 = ((p[j].toNat : Nat) : Int) := by
  rw [← e2, ← e]; norm_cast
 rw [e4]
 simp
theorem pB_crash (A : Dv) (c : List UInt8) : pB (A.crash c).per (64 * (A.crash c).n) = pB (imgC A c) (64 * A.n) := pB_fW _ A.n _ (pB_len _ _) rfl
end Go.Proofs.YtckhjklcfagkoaaGreatDoor
namespace Go.Proofs.YtckhjklcfagkoaaGreatDoor
set_option maxHeartbeats 4000000
set_option maxRecDepth 100000
open Go Go.Ab
attribute [local irreducible] callK callF loopQ vstep vskip pickE hideP
def vsA : List Ev := [⟨1, 0, 0, 7, 0, 0, 0, []⟩, ⟨3, 0, 0, 0, 0, 0, 0, []⟩, ⟨4, 0, 0, 0, 0, 0, 0, []⟩, ⟨7, 0, 0, 0, 0, 0, 0, []⟩]
theorem num_0 : numL 0 = [48] := by simp [numL, Lib.itoa, Lib.decDigits]
theorem num_7 : numL 7 = [55] := by simp [numL, Lib.itoa, Lib.decDigits]
theorem vsA_ok : ∀ x, x ∈ vsA → okE x = true := by
 intro x hx
 simp only [vsA, List.mem_cons, List.not_mem_nil, or_false] at hx
 rcases hx with rfl | rfl | rfl | rfl <;> decide
theorem vsA_rng : ∀ x, x ∈ vsA → Rng x := by
 intro x hx
 simp only [vsA, List.mem_cons, List.not_mem_nil, or_false] at hx
 rcases hx with rfl | rfl | rfl | rfl <;> exact ⟨by decide, by decide, by decide, by decide, by decide, by decide⟩
theorem vsA_tx : txL vsA = [115, 116, 111, 114, 101, 32, 48, 32, 48, 32, 55, 10, 102, 108, 117, 115, 104, 32, 48, 32, 48, 10, 102, 101, 110, 99, 101, 32, 48, 10, 99, 114, 97, 115, 104, 32, 45, 10] := by
 have e1 := vsA_ok
 simp only [vsA, txL, lnE] at *
 rw [if_pos (e1 _ (by simp)), if_pos (e1 _ (by simp)), if_pos (e1 _ (by simp)), if_pos (e1 _ (by simp))]
 simp [txE, wsE, joinL, num_0, num_7, chL]
def Z8 : List Int := List.replicate 8 0
def A1 : Dv := { n := 1, per := Z8, cur := Z8.set 0 7, hist := upd (fun _ => []) 0 [(0, 7)], done := fun _ => 0, err := fun _ => 0, note := fun _ _ => none, off := false, armed := false, left := 0, ex := 1 }
theorem aw_1 : (Dv.fresh 1 Z8).step ⟨1, 0, 0, 7, 0, 0, 0, []⟩ = A1 ∧ (Dv.fresh 1 Z8).stepE ⟨1, 0, 0, 7, 0, 0, 0, []⟩ = 0 := by
 have hv : okE ⟨1, 0, 0, 7, 0, 0, 0, []⟩ = true := by decide
 have e : (Dv.fresh 1 Z8).step ⟨1, 0, 0, 7, 0, 0, 0, []⟩ = A1 := by
  unfold Dv.step; rw [if_pos hv]
  simp [Dv.store, Dv.cntB, Dv.cnt, Dv.isW, Dv.fresh, Dv.put, A1, IntKind.wrap_u64]
 refine ⟨e, ?_⟩
 unfold Dv.stepE; rw [if_pos hv, e]
 simp [A1, Dv.isW, Dv.fresh]
noncomputable def A2 : Dv := { A1 with note := upd (fun _ _ => none) 0 (updF (fun _ => none) (.int .i64 0) (some 1)), ex := 2 }
theorem aw_2 : A1.step ⟨3, 0, 0, 0, 0, 0, 0, []⟩ = A2 ∧ A1.stepE ⟨3, 0, 0, 0, 0, 0, 0, []⟩ = 0 := by
 have hv : okE ⟨3, 0, 0, 0, 0, 0, 0, []⟩ = true := by decide
 have e : A1.step ⟨3, 0, 0, 0, 0, 0, 0, []⟩ = A2 := by
  unfold Dv.step; rw [if_pos hv]
  simp [Dv.flush, Dv.cntB, Dv.cnt, Dv.isB, Dv.noted, A1, A2, IntKind.wrap_u64, upd]
 refine ⟨e, ?_⟩
 unfold Dv.stepE; rw [if_pos hv, e]
 simp [A1, A2, Dv.isB]
theorem aw_3 : (A2.step ⟨4, 0, 0, 0, 0, 0, 0, []⟩).n = 1 ∧ (A2.step ⟨4, 0, 0, 0, 0, 0, 0, []⟩).per.getD 0 0 = 7 ∧ A2.stepE ⟨4, 0, 0, 0, 0, 0, 0, []⟩ = 0 := by
 have hv : okE ⟨4, 0, 0, 0, 0, 0, 0, []⟩ = true := by decide
 have e : A2.step ⟨4, 0, 0, 0, 0, 0, 0, []⟩ = A2.fence 0 := by unfold Dv.step; rw [if_pos hv]; rfl
 have hc : A2.cntB true = true := by simp [Dv.cntB, A2, A1]
 have hf : A2.fence 0 = { fencS (A2.cnt 0 true) 0 (fun _ => True) with note := upd (A2.cnt 0 true).note 0 (fun _ => none) } := if_pos hc
 have hcn : A2.cnt 0 true = { A2 with ex := 3 } := by simp [Dv.cnt, A2, A1, IntKind.wrap_u64]
 refine ⟨by rw [e, fence_n]; rfl, ?_, ?_⟩
 ·rw [e, hf, hcn]
  show (fencS { A2 with ex := 3 } 0 (fun _ => True)).per.getD 0 0 = 7
  rw [fencS_per, contS_get _ _ _ (by decide)]
  have hk : kF { A2 with ex := 3 } 0 0 = 1 := by simp [kF, A2, A1, upd, updF]
  simp only [if_true, Nat.zero_div, hk]
  simp [A2, A1, upd, appL, Z8]
 ·unfold Dv.stepE; rw [if_pos hv, e, hf, hcn]
  simp [fencS, A2, A1]
theorem pB_get0 (ws : List Int) (m : Nat) (h : 0 < m) : (pB ws m).getD 0 0 = UInt8.ofNat (byW ws 0).toNat := by
 simp [pB, List.getD_eq_getElem?_getD, h]
theorem byL_0g (ws : List Int) (m : Nat) (h : 0 < m) : (byL ws m m)[0]? = some (.v (.int .u8 (byW ws 0))) := by
 simp [byL, h]
theorem crash_byte (P : Dv) (h1 : P.n = 1) (h2 : P.per.getD 0 0 = 7) : byW (P.crash []).per 0 = 7 := by
 have e := pB_crash P []
 have e2 : imgC P [] = P.per := by unfold imgC; exact if_pos rfl
 have en : (P.crash []).n = 1 := h1
 rw [e2, h1, en] at e
 have e4 : byW P.per 0 = 7 := by
  unfold byW; rw [Nat.zero_div, h2, IntKind.wrap_u8]; decide
 have e5 := pB_get0 (P.crash []).per (64 * 1) (by decide)
 rw [e, pB_get0 P.per (64 * 1) (by decide), e4] at e5
 have h1 : 0 ≤ byW (P.crash []).per 0 ∧ byW (P.crash []).per 0 < 256 := by unfold byW; rw [IntKind.wrap_u8]; omega
 generalize byW (P.crash []).per 0 = y at *
 have h3 : (UInt8.ofNat y.toNat).toNat = 7 := by rw [← e5]; rfl
 rw [UInt8.toNat_ofNat'] at h3
 omega
theorem aw_run : ∃ F : Dv, (Dv.fresh 1 Z8).run vsA = (F, 0) ∧ F.n = 1 ∧ byW F.per 0 = 7 := by
 obtain ⟨a1, a2⟩ := aw_1
 obtain ⟨b1, b2⟩ := aw_2
 obtain ⟨c1, c2, c3⟩ := aw_3
 have h7 : okE ⟨7, 0, 0, 0, 0, 0, 0, []⟩ = true ∧ (⟨7, 0, 0, 0, 0, 0, 0, []⟩ : Ev).k = 7 := ⟨by decide, rfl⟩
 have e : (Dv.fresh 1 Z8).run vsA = ((A2.step ⟨4, 0, 0, 0, 0, 0, 0, []⟩).step ⟨7, 0, 0, 0, 0, 0, 0, []⟩, 0) := by
  rw [vsA, run_go (.inl a2), a1, run_go (.inl b2), b1, run_go (.inl c3), run_go (.inl (step7_e h7)), run_nil]
 rw [step_7 h7] at e
 generalize A2.step ⟨4, 0, 0, 0, 0, 0, 0, []⟩ = P at *
 exact ⟨P.crash [], e, c1, crash_byte P c1 c2⟩
attribute [local go_sem] eE eT eU deO peO cuO liO thO hiO noO runR runL
theorem vsA_len : vsA.length = 4 := rfl
attribute [local irreducible] vsA txL
theorem sAwake  : PCalls Tryz.prog 9 [] (.v (.bool true)) := by
 refine yB (E := E) (fn := Tryz.f9) 43 [.tmp 0] rfl rfl rfl rfl (by decide) rfl ?_
 have kp := sParse vsA vsA_rng vsA_ok (by rw [vsA_len]; decide)
 rw [vsA_tx] at kp
 have kn := dNew6 1 (by decide)
 obtain ⟨F, hr, hn, hb⟩ := aw_run
 have kr := dRun (Dv.fresh 1 Z8) J0 0 (Inv.fresh 1 _ (by decide) (by decide) (by simp [Z8])) vsA (by rw [vsA_len]; decide) (fun x hx => ⟨vsA_rng x hx, by have := okE_t (vsA_ok x hx); unfold okK at this; omega⟩)
 rw [hr] at kr
 repeat' (first
  | (with_reducible first | apply zY | apply zT | apply zM | apply zN | apply zO | refine chk_ok (by kernel_rfl) ?_)
  | ((with_reducible first | apply zP | apply zQ | apply zR | apply zL) <;> intro h <;> try (exfalso; first | omega | exact h rfl | (revert h; decide) | (cases h; done)))
  | ((with_reducible show False); omega)
  | ((with_reducible first | refine r_gr0 [17] (by with_unfolding_all exact rfl) ?_ | refine r_gr1 [17] (by with_unfolding_all exact rfl) ?_ | refine r_gr2 [17] (by with_unfolding_all exact rfl) ?_ | refine r_gr3 [17] (by with_unfolding_all exact rfl) ?_ | refine r_gr4 [17] (by with_unfolding_all exact rfl) ?_ | refine r_gr5 [17] (by with_unfolding_all exact rfl) ?_ | refine r_gr6 [17] (by with_unfolding_all exact rfl) ?_ | refine r_gr7 [17] (by with_unfolding_all exact rfl) ?_ | refine r_gr8 [17] (by with_unfolding_all exact rfl) ?_ | refine r_gr9 [17] (by with_unfolding_all exact rfl) ?_ | refine r_gr10 [17] (by with_unfolding_all exact rfl) ?_); simp -dsimp -implicitDefEqProofs (maxSteps := 1000000) (disch := first | omega | (simp only [LN, vsA_len]; omega)) only [go_sem, vsA_len])
  | ((first | (with_reducible first | apply zW | apply zV | apply zU | apply zS | apply zX | show VX _ _ _ _ _ _ _ | show vstep _ _ _ _ _ | show vskip _ _ _ | show withV _ _) | ((with_reducible show endA _ _ _ _ _ _ _); simp -implicitDefEqProofs only [endA]) | (with_reducible first | refine zB default (by first | omega | (simp only [LN, vsA_len]; omega)) (by first | omega | (simp only [LN, vsA_len]; omega)) ?_ | refine zC default (by first | omega | (simp only [LN, vsA_len]; omega)) ?_ | refine And.intro (by first | decide | omega | assumption | (simp only [LN, vsA_len]; omega)) ?_) | ((with_reducible apply zD); (exact kp)) | ((with_reducible apply zE); (exact kp); rfl) | ((with_reducible apply zF); (exact kp)) | (with_reducible first | apply zG | apply zH | apply zI) | ((with_reducible apply zJ); (first | exact kn | fail)) | ((with_reducible apply zK); (first | exact kr | fail); intro gq) | ((with_reducible show pickE _ _ _); first | refine zA _ ⟨by omega, by rfl⟩ ?_ | refine zA _ (by rfl) ?_) | fail); try simp -dsimp -implicitDefEqProofs (maxSteps := 1000000) (disch := first | omega | (simp only [LN, vsA_len]; omega)) only [go_sem, vsA_len])
  | fail)
 all_goals try omega
 obtain ⟨⟨c, J2⟩, hI⟩ := gq
 simp only at hI
 have kd := dPers6 F J2 hI.wf
 have hg := byL_0g F.per (64 * F.n) (by omega)
 cases c
 all_goals
  simp -dsimp -implicitDefEqProofs (maxSteps := 1000000) (disch := first | omega | (simp only [LN]; omega)) only [go_sem]
  repeat' (first
   | (with_reducible first | apply zY | apply zT | apply zM | apply zN | apply zO | refine chk_ok (by kernel_rfl) ?_)
   | ((with_reducible first | apply zP | apply zQ | apply zR | apply zL) <;> intro h <;> try (exfalso; first | omega | exact h rfl | (revert h; decide) | (cases h; done)))
   | ((with_reducible show False); omega)
   | ((first | (with_reducible first | apply zW | apply zV | apply zU | apply zS | apply zX | show VX _ _ _ _ _ _ _ | show vstep _ _ _ _ _ | show vskip _ _ _ | show withV _ _) | ((with_reducible show endA _ _ _ _ _ _ _); simp -implicitDefEqProofs only [endA]) | (with_reducible first | refine zB default (by first | omega | (simp only [LN, hb]; omega)) (by first | omega | (simp only [LN, hb]; omega)) ?_ | refine zC default (by first | omega | (simp only [LN, hb]; omega)) ?_ | refine And.intro (by first | decide | omega | assumption | (simp only [LN, hb]; omega)) ?_) | (with_reducible first | apply zG | apply zH | apply zI) | ((with_reducible apply zJ); (first | exact kd | fail)) | ((with_reducible show pickE _ _ _); first | refine zA _ ⟨by omega, by rfl⟩ ?_ | refine zA _ (by rfl) ?_) | fail); try simp -dsimp -implicitDefEqProofs (maxSteps := 1000000) (disch := first | omega | (simp only [LN, hb]; omega)) only [go_sem, hb])
   | fail)
  refine zA _ hg ?_
  simp -dsimp -implicitDefEqProofs (maxSteps := 1000000) (disch := first | omega | (simp only [LN, hb]; omega)) only [go_sem, hb]
  repeat' (first
   | (with_reducible first | apply zY | apply zT | apply zM | apply zN | apply zO | refine chk_ok (by kernel_rfl) ?_)
   | ((with_reducible first | apply zP | apply zQ | apply zR | apply zL) <;> intro h <;> try (exfalso; first | omega | exact h rfl | (revert h; decide) | (cases h; done)))
   | ((with_reducible show False); omega)
   | ((first | (with_reducible first | apply zW | apply zV | apply zU | apply zS | apply zX | show VX _ _ _ _ _ _ _ | show vstep _ _ _ _ _ | show vskip _ _ _ | show withV _ _) | ((with_reducible show endA _ _ _ _ _ _ _); simp -implicitDefEqProofs only [endA]) | (with_reducible first | refine zB default (by first | omega | (simp only [LN, hb]; omega)) (by first | omega | (simp only [LN, hb]; omega)) ?_ | refine zC default (by first | omega | (simp only [LN, hb]; omega)) ?_ | refine And.intro (by first | decide | omega | assumption | (simp only [LN, hb]; omega)) ?_) | ((with_reducible show pickE _ _ _); first | refine zA _ ⟨by omega, by rfl⟩ ?_ | refine zA _ (by rfl) ?_) | fail); try simp -dsimp -implicitDefEqProofs (maxSteps := 1000000) (disch := first | omega | (simp only [LN, hb]; omega)) only [go_sem, hb])
   | fail)
  all_goals first | rfl | omega
end Go.Proofs.YtckhjklcfagkoaaGreatDoor
