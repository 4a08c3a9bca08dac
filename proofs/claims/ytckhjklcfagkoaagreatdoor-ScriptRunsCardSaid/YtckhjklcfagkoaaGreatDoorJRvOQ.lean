/- Contracts of functions of this program, and the plain facts that they rest on. No conditions. -/
import Derived.Test.YtckhjklcfagkoaaGreatDoorJRvLQ
set_option linter.unusedSimpArgs false
set_option linter.unusedVariables false
namespace Go.Proofs.YtckhjklcfagkoaaGreatDoor
set_option maxHeartbeats 4000000
set_option maxRecDepth 100000
open Go Go.Ab
attribute [local irreducible] callK callF loopQ vstep vskip pickE hideP
attribute [local go_sem] rdO rlO lns_len rE rdV
theorem rStep2 (A : Dv) (M : MT) (N : Nat) (h : RInv A M N) (x : Ev) (R : Rng x) (hv : okE x = true) (hk : x.k = 2) : ACalls Tryz.prog 13 [.loc 0 0, .p (rE x)] [rdO A M 1, rlO A] (.tup [.loc 0 0, .p (.v (.bool (A.stepB x))), .p (.v (.int .i64 (A.stepE x)))]) [rdO (A.step x) (Mv A M x) 1, rlO (A.step x)] := by
 refine yA (E := E) (fn := Tryz.f13) 104 [.tmp 4, .tmp 5, .tmp 6] rfl rfl rfl rfl (by decide) rfl rfl ?_
 have kv := rValid x (by have := okE_t hv; unfold okK at this; omega)
 rw [hv] at kv
 have hro := R.o
 have hrv := R.v
 have hrw := R.w
 have h6 := h.wf.n6
 obtain ⟨e, h1, h2⟩ := ev_2 (okE_t hv) hk
 obtain ⟨t, ht⟩ := Int.eq_ofNat_of_zero_le h1
 have ht8 : t < 8 := by omega
 rw [ht] at e
 generalize x.o = o at *
 generalize x.v = v at *
 generalize x.w = w at *
 subst e
 have e1 : A.step ⟨2, (t : Int), o, v, w, 0, 0, []⟩ = A.cas t o w v := by unfold Dv.step; rw [hv]; rfl
 have e2 : A.stepB ⟨2, (t : Int), o, v, w, 0, 0, []⟩ = A.casB o w := by unfold Dv.stepB; rw [hv]; rfl
 have e3 : A.stepE ⟨2, (t : Int), o, v, w, 0, 0, []⟩ = if (A.cas t o w v).off = true then 3 else if A.isW o = true then 0 else 2 := by unfold Dv.stepE; rw [hv, e1]; simp
 have e4 : Mv A M ⟨2, (t : Int), o, v, w, 0, 0, []⟩ = M := by unfold Mv; rw [hv]; simp
 rw [e1, e2, e3, e4]
 clear e1 e2 e3 e4
 have ki := pIs A M h6 o hro
 have ks := rCAS A M t ht8 h.wf h.lo h.cu o w v hro
 have ho := fun e => cas_offT (A := A) e t o w v
 have hco := cas_off (A := A) (k := t) (o := o) (w := w) (v := v)
 generalize hB : A.cas t o w v = B at *
 generalize hw : A.isW o = iw at *
 generalize hcb : A.casB o w = cb at *
 repeat' (first
  | (with_reducible first | apply zY | apply zT | apply zM | apply zN | apply zO | refine chk_ok (by kernel_rfl) ?_)
  | ((with_reducible first | apply zP | apply zQ | apply zR | apply zL) <;> intro h <;> try (exfalso; first | omega | exact h rfl | (revert h; decide) | (cases h; done)))
  | ((with_reducible show False); omega)
  | ((first | (with_reducible first | apply zW | apply zV | apply zU | apply zS | apply zX | show VX _ _ _ _ _ _ _ | show vstep _ _ _ _ _ | show vskip _ _ _ | show withV _ _) | ((with_reducible show endA _ _ _ _ _ _ _); simp -implicitDefEqProofs only [endA]) | (with_reducible first | refine zB default (by first | omega | (simp only [LN, lnT]; omega)) (by first | omega | (simp only [LN, lnT]; omega)) ?_ | refine zC default (by first | omega | (simp only [LN, lnT]; omega)) ?_ | refine And.intro (by first | decide | omega | assumption | (simp only [LN, lnT]; omega)) ?_) | ((with_reducible apply zD); (first | exact kv | exact ki | fail)) | ((with_reducible apply zE); (first | exact kv | exact ki | fail); rfl) | ((with_reducible apply zF); (first | exact kv | exact ki | fail)) | (with_reducible first | apply zG | apply zH | apply zI) | ((with_reducible apply zJ); (first | exact ks | fail)) | ((with_reducible show pickE _ _ _); first | refine zA _ ⟨by omega, by rfl⟩ ?_ | refine zA _ (by rfl) ?_) | fail); try simp -dsimp -implicitDefEqProofs (maxSteps := 1000000) (disch := first | omega | (simp only [LN, lnT]; omega)) only [go_sem, lnT])
  | fail)
 all_goals first | (simp [*]; done) | (cases cb <;> simp_all; done)
theorem rStep3 (A : Dv) (M : MT) (N : Nat) (h : RInv A M N) (hN : N ≤ 1000000) (x : Ev) (R : Rng x) (hv : okE x = true) (hk : x.k = 3) : ACalls Tryz.prog 13 [.loc 0 0, .p (rE x)] [rdO A M 1, rlO A] (.tup [.loc 0 0, .p (.v (.bool (A.stepB x))), .p (.v (.int .i64 (A.stepE x)))]) [rdO (A.step x) (Mv A M x) 1, rlO (A.step x)] := by
 refine yA (E := E) (fn := Tryz.f13) 104 [.tmp 4, .tmp 5, .tmp 6] rfl rfl rfl rfl (by decide) rfl rfl ?_
 have kv := rValid x (by have := okE_t hv; unfold okK at this; omega)
 rw [hv] at kv
 have hro := R.o
 have hrv := R.v
 have hrw := R.w
 have h6 := h.wf.n6
 obtain ⟨e, h1, h2⟩ := ev_3 (okE_t hv) hk
 obtain ⟨t, ht⟩ := Int.eq_ofNat_of_zero_le h1
 have ht8 : t < 8 := by omega
 rw [ht] at e
 generalize x.o = o at *
 subst e
 have e1 : A.step ⟨3, (t : Int), o, 0, 0, 0, 0, []⟩ = A.flush t o := by unfold Dv.step; rw [hv]; rfl
 have e2 : A.stepB ⟨3, (t : Int), o, 0, 0, 0, 0, []⟩ = false := by unfold Dv.stepB; rw [hv]; rfl
 have e3 : A.stepE ⟨3, (t : Int), o, 0, 0, 0, 0, []⟩ = if (A.flush t o).off = true then 3 else if A.isB o = true then 0 else 2 := by unfold Dv.stepE; rw [hv, e1]; simp
 have e4 : Mv A M ⟨3, (t : Int), o, 0, 0, 0, 0, []⟩ = flM A M t o := by unfold Mv; rw [hv]; simp
 rw [e1, e2, e3, e4]
 clear e1 e2 e3 e4
 have ki := pIs A M h6 o hro
 have ks := rFlush A M N h.nt hN t ht8 h.wf h.lo o hro
 have ho := fun e => flush_offT (A := A) e t o
 have a1 : IntKind.u64.wrap (o.tdiv 64) = o / 64 := by rw [Int.tdiv_eq_ediv_of_nonneg hro.1, IntKind.wrap_u64]; omega
 have a2 : IntKind.u64.wrap (A.n : Int) = A.n := by rw [IntKind.wrap_u64]; omega
 have a3 : IntKind.u64.wrap (o / 64) = o / 64 := by rw [IntKind.wrap_u64]; omega
 have a4 : decide (o / 64 < (A.n : Int)) = A.isB o := by unfold Dv.isB; rw [Bool.eq_iff_iff]; simp; omega
 generalize hB : A.flush t o = B at *
 generalize hF : flM A M t o = F at *
 generalize hw : A.isB o = iw at *
 repeat' (first
  | (with_reducible first | apply zY | apply zT | apply zM | apply zN | apply zO | refine chk_ok (by kernel_rfl) ?_)
  | ((with_reducible first | apply zP | apply zQ | apply zR | apply zL) <;> intro h <;> try (exfalso; first | omega | exact h rfl | (revert h; decide) | (cases h; done)))
  | ((with_reducible show False); omega)
  | ((first | (with_reducible first | apply zW | apply zV | apply zU | apply zS | apply zX | show VX _ _ _ _ _ _ _ | show vstep _ _ _ _ _ | show vskip _ _ _ | show withV _ _) | ((with_reducible show endA _ _ _ _ _ _ _); simp -implicitDefEqProofs only [endA]) | (with_reducible first | refine zB default (by first | omega | (simp only [LN, lnT, a1, a2, a3, a4]; omega)) (by first | omega | (simp only [LN, lnT, a1, a2, a3, a4]; omega)) ?_ | refine zC default (by first | omega | (simp only [LN, lnT, a1, a2, a3, a4]; omega)) ?_ | refine And.intro (by first | decide | omega | assumption | (simp only [LN, lnT, a1, a2, a3, a4]; omega)) ?_) | ((with_reducible apply zD); (first | exact kv | exact ki | fail)) | ((with_reducible apply zE); (first | exact kv | exact ki | fail); rfl) | ((with_reducible apply zF); (first | exact kv | exact ki | fail)) | (with_reducible first | apply zG | apply zH | apply zI) | ((with_reducible apply zJ); (first | exact ks | fail)) | ((with_reducible show pickE _ _ _); first | refine zA _ ⟨by omega, by rfl⟩ ?_ | refine zA _ (by rfl) ?_) | fail); try simp -dsimp -implicitDefEqProofs (maxSteps := 1000000) (disch := first | omega | (simp only [LN, lnT, a1, a2, a3, a4]; omega)) only [go_sem, lnT, a1, a2, a3, a4])
  | fail)
 all_goals first | (simp [*]; done)
theorem rStep4 (A : Dv) (M : MT) (N : Nat) (h : RInv A M N) (hN : N ≤ 1000000) (hno : ∀ k, k < 8 → NoteOk A k) (x : Ev) (R : Rng x) (hv : okE x = true) (hk : x.k = 4) : ACalls Tryz.prog 13 [.loc 0 0, .p (rE x)] [rdO A M 1, rlO A] (.tup [.loc 0 0, .p (.v (.bool (A.stepB x))), .p (.v (.int .i64 (A.stepE x)))]) [rdO (A.step x) (Mv A M x) 1, rlO (A.step x)] := by
 refine yA (E := E) (fn := Tryz.f13) 104 [.tmp 4, .tmp 5, .tmp 6] rfl rfl rfl rfl (by decide) rfl rfl ?_
 have kv := rValid x (by have := okE_t hv; unfold okK at this; omega)
 rw [hv] at kv
 have hro := R.o
 have hrv := R.v
 have hrw := R.w
 have h6 := h.wf.n6
 obtain ⟨e, h1, h2⟩ := ev_4 (okE_t hv) hk
 obtain ⟨t, ht⟩ := Int.eq_ofNat_of_zero_le h1
 have ht8 : t < 8 := by omega
 rw [ht] at e
 subst e
 have e1 : A.step ⟨4, (t : Int), 0, 0, 0, 0, 0, []⟩ = A.fence t := by unfold Dv.step; rw [hv]; rfl
 have e2 : A.stepB ⟨4, (t : Int), 0, 0, 0, 0, 0, []⟩ = false := by unfold Dv.stepB; rw [hv]; rfl
 have e3 : A.stepE ⟨4, (t : Int), 0, 0, 0, 0, 0, []⟩ = if (A.fence t).off = true then 3 else 0 := by unfold Dv.stepE; rw [hv, e1]; simp
 have e4 : Mv A M ⟨4, (t : Int), 0, 0, 0, 0, 0, []⟩ = feM A M t := by unfold Mv; rw [hv]; simp
 rw [e1, e2, e3, e4]
 clear e1 e2 e3 e4
 have ki := pIs A M h6 0 (by omega)
 have ks := rFence A M N h.nt hN t ht8 h.wf h.lo (hno t ht8)
 have ho := fun e => fence_offT (A := A) e t
 generalize hB : A.fence t = B at *
 generalize hF : feM A M t = F at *
 repeat' (first
  | (with_reducible first | apply zY | apply zT | apply zM | apply zN | apply zO | refine chk_ok (by kernel_rfl) ?_)
  | ((with_reducible first | apply zP | apply zQ | apply zR | apply zL) <;> intro h <;> try (exfalso; first | omega | exact h rfl | (revert h; decide) | (cases h; done)))
  | ((with_reducible show False); omega)
  | ((first | (with_reducible first | apply zW | apply zV | apply zU | apply zS | apply zX | show VX _ _ _ _ _ _ _ | show vstep _ _ _ _ _ | show vskip _ _ _ | show withV _ _) | ((with_reducible show endA _ _ _ _ _ _ _); simp -implicitDefEqProofs only [endA]) | (with_reducible first | refine zB default (by first | omega | (simp only [LN, lnT]; omega)) (by first | omega | (simp only [LN, lnT]; omega)) ?_ | refine zC default (by first | omega | (simp only [LN, lnT]; omega)) ?_ | refine And.intro (by first | decide | omega | assumption | (simp only [LN, lnT]; omega)) ?_) | ((with_reducible apply zD); (first | exact kv | exact ki | fail)) | ((with_reducible apply zE); (first | exact kv | exact ki | fail); rfl) | ((with_reducible apply zF); (first | exact kv | exact ki | fail)) | (with_reducible first | apply zG | apply zH | apply zI) | ((with_reducible apply zJ); (first | exact ks | fail)) | ((with_reducible show pickE _ _ _); first | refine zA _ ⟨by omega, by rfl⟩ ?_ | refine zA _ (by rfl) ?_) | fail); try simp -dsimp -implicitDefEqProofs (maxSteps := 1000000) (disch := first | omega | (simp only [LN, lnT]; omega)) only [go_sem, lnT])
  | fail)
 all_goals first | (simp [*]; done)
theorem rStep5 (A : Dv) (M : MT) (N : Nat) (h : RInv A M N) (x : Ev) (R : Rng x) (hv : okE x = true) (hk : x.k = 5) : ACalls Tryz.prog 13 [.loc 0 0, .p (rE x)] [rdO A M 1, rlO A] (.tup [.loc 0 0, .p (.v (.bool (A.stepB x))), .p (.v (.int .i64 (A.stepE x)))]) [rdO (A.step x) (Mv A M x) 1, rlO (A.step x)] := by
 refine yA (E := E) (fn := Tryz.f13) 104 [.tmp 4, .tmp 5, .tmp 6] rfl rfl rfl rfl (by decide) rfl rfl ?_
 have kv := rValid x (by have := okE_t hv; unfold okK at this; omega)
 rw [hv] at kv
 have hro := R.o
 have hrv := R.v
 have hrw := R.w
 have h6 := h.wf.n6
 obtain ⟨e, h1, h2⟩ := ev_5 (okE_t hv) hk
 generalize x.ln = ln at *
 generalize x.n = n at *
 subst e
 have e1 : A.step ⟨5, 0, 0, 0, 0, ln, n, []⟩ = A.wb ln n := by unfold Dv.step; rw [hv]; rfl
 have e2 : A.stepB ⟨5, 0, 0, 0, 0, ln, n, []⟩ = A.wbB ln n := by unfold Dv.stepB; rw [hv]; rfl
 have e3 : A.stepE ⟨5, 0, 0, 0, 0, ln, n, []⟩ = 0 := by unfold Dv.stepE; rw [hv]; simp
 have e4 : Mv A M ⟨5, 0, 0, 0, 0, ln, n, []⟩ = M := by unfold Mv; rw [hv]; simp
 rw [e1, e2, e3, e4]
 clear e1 e2 e3 e4
 have ki := pIs A M h6 0 (by omega)
 by_cases hb : A.wbB ln n = true
 ·rw [show A.wb ln n = A.persist ln.toNat n.toNat from if_pos hb, hb]
  unfold Dv.wbB at hb
  simp only [Bool.and_eq_true, decide_eq_true_eq, Bool.not_eq_true'] at hb
  have ks := rWB1 A M h.wf ln.toNat n.toNat hb.1 (by omega) (by omega)
  rw [show ((ln.toNat : Nat) : Int) = ln by omega, show ((n.toNat : Nat) : Int) = n by omega] at ks
  repeat' (first
   | (with_reducible first | apply zY | apply zT | apply zM | apply zN | apply zO | refine chk_ok (by kernel_rfl) ?_)
   | ((with_reducible first | apply zP | apply zQ | apply zR | apply zL) <;> intro h <;> try (exfalso; first | omega | exact h rfl | (revert h; decide) | (cases h; done)))
   | ((with_reducible show False); omega)
   | ((first | (with_reducible first | apply zW | apply zV | apply zU | apply zS | apply zX | show VX _ _ _ _ _ _ _ | show vstep _ _ _ _ _ | show vskip _ _ _ | show withV _ _) | ((with_reducible show endA _ _ _ _ _ _ _); simp -implicitDefEqProofs only [endA]) | (with_reducible first | refine zB default (by first | omega | (simp only [LN, lnT]; omega)) (by first | omega | (simp only [LN, lnT]; omega)) ?_ | refine zC default (by first | omega | (simp only [LN, lnT]; omega)) ?_ | refine And.intro (by first | decide | omega | assumption | (simp only [LN, lnT]; omega)) ?_) | ((with_reducible apply zD); (first | exact kv | exact ki | fail)) | ((with_reducible apply zE); (first | exact kv | exact ki | fail); rfl) | ((with_reducible apply zF); (first | exact kv | exact ki | fail)) | (with_reducible first | apply zG | apply zH | apply zI) | ((with_reducible apply zJ); (first | exact ks | fail)) | ((with_reducible show pickE _ _ _); first | refine zA _ ⟨by omega, by rfl⟩ ?_ | refine zA _ (by rfl) ?_) | fail); try simp -dsimp -implicitDefEqProofs (maxSteps := 1000000) (disch := first | omega | (simp only [LN, lnT]; omega)) only [go_sem, lnT])
   | fail)
 ·simp only [Bool.not_eq_true] at hb
  have ks := rWB0 A M h.wf ln n hb
  rw [show A.wb ln n = A from by unfold Dv.wb; rw [hb]; rfl, hb]
  repeat' (first
   | (with_reducible first | apply zY | apply zT | apply zM | apply zN | apply zO | refine chk_ok (by kernel_rfl) ?_)
   | ((with_reducible first | apply zP | apply zQ | apply zR | apply zL) <;> intro h <;> try (exfalso; first | omega | exact h rfl | (revert h; decide) | (cases h; done)))
   | ((with_reducible show False); omega)
   | ((first | (with_reducible first | apply zW | apply zV | apply zU | apply zS | apply zX | show VX _ _ _ _ _ _ _ | show vstep _ _ _ _ _ | show vskip _ _ _ | show withV _ _) | ((with_reducible show endA _ _ _ _ _ _ _); simp -implicitDefEqProofs only [endA]) | (with_reducible first | refine zB default (by first | omega | (simp only [LN, lnT]; omega)) (by first | omega | (simp only [LN, lnT]; omega)) ?_ | refine zC default (by first | omega | (simp only [LN, lnT]; omega)) ?_ | refine And.intro (by first | decide | omega | assumption | (simp only [LN, lnT]; omega)) ?_) | ((with_reducible apply zD); (first | exact kv | exact ki | fail)) | ((with_reducible apply zE); (first | exact kv | exact ki | fail); rfl) | ((with_reducible apply zF); (first | exact kv | exact ki | fail)) | (with_reducible first | apply zG | apply zH | apply zI) | ((with_reducible apply zJ); (first | exact ks | fail)) | ((with_reducible show pickE _ _ _); first | refine zA _ ⟨by omega, by rfl⟩ ?_ | refine zA _ (by rfl) ?_) | fail); try simp -dsimp -implicitDefEqProofs (maxSteps := 1000000) (disch := first | omega | (simp only [LN, lnT]; omega)) only [go_sem, lnT])
   | fail)
theorem rStep6 (A : Dv) (M : MT) (N : Nat) (h : RInv A M N) (x : Ev) (R : Rng x) (hv : okE x = true) (hk : x.k = 6) : ACalls Tryz.prog 13 [.loc 0 0, .p (rE x)] [rdO A M 1, rlO A] (.tup [.loc 0 0, .p (.v (.bool (A.stepB x))), .p (.v (.int .i64 (A.stepE x)))]) [rdO (A.step x) (Mv A M x) 1, rlO (A.step x)] := by
 refine yA (E := E) (fn := Tryz.f13) 104 [.tmp 4, .tmp 5, .tmp 6] rfl rfl rfl rfl (by decide) rfl rfl ?_
 have kv := rValid x (by have := okE_t hv; unfold okK at this; omega)
 rw [hv] at kv
 have hro := R.o
 have hrv := R.v
 have hrw := R.w
 have h6 := h.wf.n6
 obtain ⟨e, h1, h2⟩ := ev_6 (okE_t hv) hk
 generalize x.n = n at *
 subst e
 have e1 : A.step ⟨6, 0, 0, 0, 0, 0, n, []⟩ = A.arm n := by unfold Dv.step; rw [hv]; rfl
 have e2 : A.stepB ⟨6, 0, 0, 0, 0, 0, n, []⟩ = false := by unfold Dv.stepB; rw [hv]; rfl
 have e3 : A.stepE ⟨6, 0, 0, 0, 0, 0, n, []⟩ = 0 := by unfold Dv.stepE; rw [hv]; simp
 have e4 : Mv A M ⟨6, 0, 0, 0, 0, 0, n, []⟩ = M := by unfold Mv; rw [hv]; simp
 rw [e1, e2, e3, e4]
 clear e1 e2 e3 e4
 have ki := pIs A M h6 0 (by omega)
 have ks := rArm A M n
 generalize hB : A.arm n = B at *
 repeat' (first
  | (with_reducible first | apply zY | apply zT | apply zM | apply zN | apply zO | refine chk_ok (by kernel_rfl) ?_)
  | ((with_reducible first | apply zP | apply zQ | apply zR | apply zL) <;> intro h <;> try (exfalso; first | omega | exact h rfl | (revert h; decide) | (cases h; done)))
  | ((with_reducible show False); omega)
  | ((first | (with_reducible first | apply zW | apply zV | apply zU | apply zS | apply zX | show VX _ _ _ _ _ _ _ | show vstep _ _ _ _ _ | show vskip _ _ _ | show withV _ _) | ((with_reducible show endA _ _ _ _ _ _ _); simp -implicitDefEqProofs only [endA]) | (with_reducible first | refine zB default (by first | omega | (simp only [LN, lnT]; omega)) (by first | omega | (simp only [LN, lnT]; omega)) ?_ | refine zC default (by first | omega | (simp only [LN, lnT]; omega)) ?_ | refine And.intro (by first | decide | omega | assumption | (simp only [LN, lnT]; omega)) ?_) | ((with_reducible apply zD); (first | exact kv | exact ki | fail)) | ((with_reducible apply zE); (first | exact kv | exact ki | fail); rfl) | ((with_reducible apply zF); (first | exact kv | exact ki | fail)) | (with_reducible first | apply zG | apply zH | apply zI) | ((with_reducible apply zJ); (first | exact ks | fail)) | ((with_reducible show pickE _ _ _); first | refine zA _ ⟨by omega, by rfl⟩ ?_ | refine zA _ (by rfl) ?_) | fail); try simp -dsimp -implicitDefEqProofs (maxSteps := 1000000) (disch := first | omega | (simp only [LN, lnT]; omega)) only [go_sem, lnT])
  | fail)
end Go.Proofs.YtckhjklcfagkoaaGreatDoor
namespace Go.Proofs.YtckhjklcfagkoaaGreatDoor
set_option maxHeartbeats 4000000
set_option maxRecDepth 100000
open Go Go.Ab
attribute [local irreducible] callK callF loopQ vstep vskip pickE hideP
attribute [local go_sem] rdO rlO lns_len rE rdV
theorem rStep7 (A : Dv) (M : MT) (N : Nat) (h : RInv A M N) (x : Ev) (hv : okE x = true) (hk : x.k = 7) : ACalls Tryz.prog 13 [.loc 0 0, .p (rE x)] [rdO A M 1, rlO A] (.tup [.loc 2 0, .p (.v (.bool false)), .p (.v (.int .i64 0))]) [rdO A M 1, rlO A, rdO (A.step x) (fun _ => []) 3, rlO (A.step x)] := by
 refine yA (E := E) (fn := Tryz.f13) 104 [.tmp 4, .tmp 5, .tmp 6] rfl rfl rfl rfl (by decide) rfl rfl ?_
 have kv := rValid x (by have := okE_t hv; unfold okK at this; omega)
 rw [hv] at kv
 obtain ⟨e, h1⟩ := ev_7 (okE_t hv) hk
 generalize x.ch = ch at *
 subst e
 have e1 : A.step ⟨7, 0, 0, 0, 0, 0, 0, ch⟩ = A.crash ch := by unfold Dv.step; rw [hv]; rfl
 have h6 := h.wf.n6
 have h0 := h.wf.n0
 have ki := pIs A M h6 0 (by omega)
 have kI := rImage A M h.wf h.rg ch (by omega)
 rw [oL_by, byL_pB] at kI
 have hlp : (pB (imgC A ch) (64 * A.n)).length = 64 * A.n := pB_len _ _
 have kF := rFrom (pB (imgC A ch) (64 * A.n)) A.n hlp ⟨h0, h6⟩
 rw [hlp, show Dv.fresh A.n (fW (pB (imgC A ch) (64 * A.n)) (8 * A.n) (64 * A.n)) = A.crash ch from rfl] at kF
 rw [e1]
 generalize pB (imgC A ch) (64 * A.n) = p at *
 generalize hB : A.crash ch = B at *
 have hch : ch.map eB = ch.map eC := rfl
 repeat' (first
  | (with_reducible first | apply zY | apply zT | apply zM | apply zN | apply zO | refine chk_ok (by kernel_rfl) ?_)
  | ((with_reducible first | apply zP | apply zQ | apply zR | apply zL) <;> intro h <;> try (exfalso; first | omega | exact h rfl | (revert h; decide) | (cases h; done)))
  | ((with_reducible show False); omega)
  | ((first | (with_reducible first | apply zW | apply zV | apply zU | apply zS | apply zX | show VX _ _ _ _ _ _ _ | show vstep _ _ _ _ _ | show vskip _ _ _ | show withV _ _) | ((with_reducible show endA _ _ _ _ _ _ _); simp -implicitDefEqProofs only [endA]) | (with_reducible first | refine zB default (by first | omega | (simp only [LN, lnT, hch]; omega)) (by first | omega | (simp only [LN, lnT, hch]; omega)) ?_ | refine zC default (by first | omega | (simp only [LN, lnT, hch]; omega)) ?_ | refine And.intro (by first | decide | omega | assumption | (simp only [LN, lnT, hch]; omega)) ?_) | ((with_reducible apply zD); (first | exact kv | exact ki | fail)) | ((with_reducible apply zE); (first | exact kv | exact ki | fail); rfl) | ((with_reducible apply zF); (first | exact kv | exact ki | fail)) | (with_reducible first | apply zG | apply zH | apply zI) | ((with_reducible apply zJ); (first | exact kI | exact kF | fail)) | ((with_reducible show pickE _ _ _); first | refine zA _ ⟨by omega, by rfl⟩ ?_ | refine zA _ (by rfl) ?_) | fail); try simp -dsimp -implicitDefEqProofs (maxSteps := 1000000) (disch := first | omega | (simp only [LN, lnT, hch]; omega)) only [go_sem, lnT, hch])
  | fail)
end Go.Proofs.YtckhjklcfagkoaaGreatDoor
