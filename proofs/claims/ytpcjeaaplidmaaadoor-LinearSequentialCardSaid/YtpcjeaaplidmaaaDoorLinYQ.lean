/- Contracts of functions of this program, and the plain facts that they rest on. No conditions. -/
import Derived.Test.YtpcjeaaplidmaaaDoorLinXQ
import Derived.Test.YtpcjeaaplidmaaaDoorLinKQ
import Derived.Test.YtpcjeaaplidmaaaDoorLinLQ
set_option linter.unusedSimpArgs false
set_option linter.unusedVariables false
namespace Go.Proofs.YtpcjeaaplidmaaaDoor
open Go Go.Ab
attribute [local irreducible] callK callF loopQ vstep vskip pickE hideP
open Go.RowKit
set_option maxRecDepth 100000
attribute [local go_sem] eLot Hi.eC Hi.rC Hi.eE Hi.hc Hi.hP Hi.oH Hi.oW Hi.oP Hi.sR Hi.eS eI cS eN
theorem look_U {l : LP} (h : ∀ p, p ∈ l → U64 p.1 ∧ U64 p.2) (key : Int) : U64 ((Sp.Pl.look l key).getD 0) := by
  induction l with
  | nil => exact ⟨Int.le_refl (0 : Int), (by decide : (0 : Int) ≤ 18446744073709551615)⟩
  | cons p t ih =>
    rw [Sp.Pl.look]
    split
    · exact ih fun q hq => h q (List.mem_cons_of_mem _ hq)
    · split
      · exact (h p List.mem_cons_self).2
      · exact ⟨Int.le_refl (0 : Int), (by decide : (0 : Int) ≤ 18446744073709551615)⟩
theorem res_rng {s : Sp.S} {b : Nat} (h : OkS s b) {o : Sp.O} (ho : RngO o) : U64 (Sp.applyM s o).2.v := by
  have h0 : U64 0 := ⟨Int.le_refl _, by decide⟩
  have h1 := look_U h.ps o.key
  have h2 : U64 (s.vs.getD 0 0) := by
    cases hv : s.vs with
    | nil => exact h0
    | cons v t => exact h.vs v (by rw [hv]; exact List.mem_cons_self)
  unfold Sp.applyM Sp.regM Sp.queM
  rw [Sp.map_pl]
  unfold Sp.mapP'
  repeat' split
  all_goals first | exact h.n | exact ho.2.1 | exact wrap_U _ | exact h0 | exact h1 | exact h2 | exact ho.2.2
def thM (t : Int) : Int := (t.tmod 8 + 8).tmod 8
theorem wth (t : Int) : (IntKind.i64.wrap (t.tmod 8 + 8)).tmod 8 = thM t := by
  have h : -8 < t.tmod 8 ∧ t.tmod 8 < 8 := by rw [Int.tmod_eq_emod]; split <;> omega
  rw [Hi.i64w (by omega) (by omega)]; rfl
theorem thM_rng (t : Int) : 0 ≤ thM t ∧ thM t < 8 := by
  have h : -8 < t.tmod 8 ∧ t.tmod 8 < 8 := by rw [Int.tmod_eq_emod]; split <;> omega
  unfold thM
  rw [Int.tmod_eq_emod]; split <;> omega
theorem wrap_ne {v bz : Int} (hv : U64 v) (hb : U64 bz) (h0 : bz ≠ 0) : ¬ v = IntKind.u64.wrap (v + bz) := by
  rw [IntKind.wrap_u64]; unfold U64 at *; omega
attribute [local irreducible] kdI thM Hi.h0 stN addC
set_option maxRecDepth 100000 in
set_option maxHeartbeats 4000000 in
theorem c3 (kd : Int) (l : List Hi.S) (spoil bz : Int) (hr : ∀ s, s ∈ l → RngS s) (hbz : U64 bz) (hll : l.length ≤ 140737488355328) : PCalls Tryd.prog 3 [eLot kd l, .v (.int .i64 spoil), .v (.int .u64 bz)] (.v (.bool true)) := by
  refine pcalls_of (E := E) (fn := Tryd.f3) 133 [.tmp 6] rfl rfl rfl rfl (by decide) rfl ?_
  have h3 := newK_kd kd
  have k7 := c7 kd l
  have hkr := kdM_rng kd
  have hkd : 1 ≤ kdI kd ∧ kdI kd ≤ 4 := by unfold kdI; omega
  have hini := seq_0 (kdI kd)
  generalize kdI kd = k at *
  have hw : IntKind.u8.wrap k = k := by rw [IntKind.wrap_u8]; omega
  have k8 := c8S k
  repeat' (first
    | (with_reducible first | refine r_seq ?_ | refine r_block ?_ | refine fork_not ?_ | refine fork_and ?_ | refine fork_or ?_ | refine chk_ok (by kernel_rfl) ?_)
    | ((with_reducible first | refine fork_dec ?_ ?_ | refine fork_eq ?_ ?_ | refine fork_ne ?_ ?_ | refine fork_intro ?_ ?_) <;> intro h)
    | ((with_reducible show False); omega)
    | ((first | (with_reducible first | refine r_exit ?_ | refine r_skip ?_ | refine r_cond ?_ | refine r_region ?_ | show VX _ _ _ _ _ _ _ | show vstep _ _ _ _ _ | show vskip _ _ _ | show withV _ _) | ((with_reducible show endA _ _ _ _ _ _ _); simp -implicitDefEqProofs only [endA])); simp -dsimp -implicitDefEqProofs (maxSteps := 1000000) (disch := first | omega | (simp only [LN, hw]; omega)) only [go_sem, Int.reduceToNat, Int.reducePow, Nat.reducePow, Int.reduceAdd, Int.reduceMul, Int.reduceSub, Int.reduceNeg, Nat.reduceAdd, Nat.reduceMul, Nat.reduceSub, Nat.reduceEqDiff, Nat.reduceLT, Nat.reduceLeDiff, hw])
    | ((first | (with_reducible refine r_ret ?_) | (with_reducible refine pick_viewG default (by first | omega | (simp only [LN, hw]; omega)) (by first | omega | (simp only [LN, hw]; omega)) ?_) | (with_reducible refine pick_own default (by first | omega | (simp only [LN, hw]; omega)) ?_) | (with_reducible refine And.intro (by first | decide | omega | assumption | (simp only [LN, hw]; omega)) ?_) | ((with_reducible apply callK_pure); (first | exact c6 | exact k7 | exact k8 | fail)) | ((with_reducible apply callF_lend); (first | exact c6 | exact k7 | exact k8 | fail); rfl) | ((with_reducible apply callF_go); (first | exact c6 | exact k7 | exact k8 | fail)) | (with_reducible first | apply callK_lent | apply callF_lent | apply hideP_own) | ((with_reducible apply callA_go); (first | exact Hi.a10 | fail)) | ((with_reducible show pickE _ _ _); first | refine pickE_intro _ ⟨by omega, by rfl⟩ ?_ | refine pickE_intro _ (by rfl) ?_) | fail); try simp -dsimp -implicitDefEqProofs (maxSteps := 1000000) (disch := first | omega | (simp only [LN, hw]; omega)) only [go_sem, Int.reduceToNat, Int.reducePow, Nat.reducePow, Int.reduceAdd, Int.reduceMul, Int.reduceSub, Int.reduceNeg, Nat.reduceAdd, Nat.reduceMul, Nat.reduceSub, Nat.reduceEqDiff, Nat.reduceLT, Nat.reduceLeDiff, hw])
    | fail)
  refine r_loopA (α := Nat × Hi.H × Sp.S × Bool) [1, 2, 3, 7, 8, 9] (fun q b => [(10, .p (.v (.bool q.2.2.2))), (11, aI q.1)]) (fun q b => [(8, .var (cS q.2.2.1)), (9, Hi.oH q.2.1 b (b + 1))]) (fun q => [.arr 2 (q.2.1.ev.map Hi.eE), .arr 11 (q.2.1.cl.map Hi.eC)]) (fun q => q.1 ≤ l.length ∧ SeqI k q.2.1 q.2.2.1 q.2.2.2 ∧ q.2.1.cl.length ≤ 8) (fun q => l.length - q.1) ((0, Hi.h0, ini k, true)) ?h0_1 ?hs0_1 ?I_1 ?hI_1 ?round_1
  case hI_1 => intro x; (simp -dsimp -implicitDefEqProofs (maxSteps := 1000000) (disch := first | omega | (simp only [LN]; omega)) only [go_sem, Int.reduceToNat, Int.reducePow, Nat.reducePow, Int.reduceAdd, Int.reduceMul, Int.reduceSub, Int.reduceNeg, Nat.reduceAdd, Nat.reduceMul, Nat.reduceSub, Nat.reduceEqDiff, Nat.reduceLT, Nat.reduceLeDiff]) <;> exact rfl
  case hs0_1 => refine wk_auto ?_; (simp -dsimp -implicitDefEqProofs (maxSteps := 1000000) (disch := first | omega | (simp only [LN, cS]; omega)) only [go_sem, Int.reduceToNat, Int.reducePow, Nat.reducePow, Int.reduceAdd, Int.reduceMul, Int.reduceSub, Int.reduceNeg, Nat.reduceAdd, Nat.reduceMul, Nat.reduceSub, Nat.reduceEqDiff, Nat.reduceLT, Nat.reduceLeDiff, cS]) <;> (try omega)
  case h0_1 => exact ⟨Nat.zero_le _, hini, by dsimp only; rw [h0_cl]; decide⟩
  case round_1 =>
    rintro ⟨i, x, s, r⟩ ⟨h1, hI, hcl⟩
    dsimp only at h1 hI hcl
    have hev := hI.ev
    have k10 := o10 x (by omega)
    by_cases hi : i < l.length ∧ x.cl.length < 8
    · have k11 := c11 k (l.getD i default).k
      have hrs : RngS (l.getD i default) := hr _ (by rw [Hi.getD_get _ _ _ hi.1]; exact List.getElem_mem hi.1)
      have hwt := wth (l.getD i default).th
      have htr := thM_rng (l.getD i default).th
      obtain ⟨z, hz⟩ : ∃ z, l.getD i default = z := ⟨_, rfl⟩
      rw [hz] at k11 hrs hwt htr
      cases hkn : knowsM k z.k with
      | false =>
        repeat' (first
          | (with_reducible first | refine r_seq ?_ | refine r_block ?_ | refine fork_not ?_ | refine fork_and ?_ | refine fork_or ?_ | refine chk_ok (by kernel_rfl) ?_)
          | ((with_reducible first | refine fork_dec ?_ ?_ | refine fork_eq ?_ ?_ | refine fork_ne ?_ ?_ | refine fork_intro ?_ ?_) <;> intro h <;> try (exfalso; first | omega | exact h rfl | (revert h; decide) | (cases h; done)))
          | ((with_reducible show False); omega)
          | ((first | (with_reducible first | refine r_exit ?_ | refine r_skip ?_ | refine r_cond ?_ | refine r_region ?_ | show VX _ _ _ _ _ _ _ | show vstep _ _ _ _ _ | show vskip _ _ _ | show withV _ _) | ((with_reducible show endA _ _ _ _ _ _ _); simp -implicitDefEqProofs only [endA])); simp -dsimp -implicitDefEqProofs (maxSteps := 1000000) (disch := first | omega | (simp only [LN, hz, hkn]; omega)) only [go_sem, Int.reduceToNat, Int.reducePow, Nat.reducePow, Int.reduceAdd, Int.reduceMul, Int.reduceSub, Int.reduceNeg, Nat.reduceAdd, Nat.reduceMul, Nat.reduceSub, Nat.reduceEqDiff, Nat.reduceLT, Nat.reduceLeDiff, hz, hkn])
          | ((first | (with_reducible refine r_ret ?_) | (with_reducible refine pick_viewG default (by first | omega | (simp only [LN, hz, hkn]; omega)) (by first | omega | (simp only [LN, hz, hkn]; omega)) ?_) | (with_reducible refine pick_own default (by first | omega | (simp only [LN, hz, hkn]; omega)) ?_) | (with_reducible refine And.intro (by first | decide | omega | assumption | (simp only [LN, hz, hkn]; omega)) ?_) | ((with_reducible apply callK_pure); (first | exact k7 | exact k11 | fail)) | ((with_reducible apply callF_lend); (first | exact k7 | exact k11 | fail); rfl) | ((with_reducible apply callF_go); (first | exact k7 | exact k11 | fail)) | (with_reducible first | apply callK_lent | apply callF_lent | apply hideP_own) | ((with_reducible apply callA_go); (first | exact k10 | fail)) | ((with_reducible show pickE _ _ _); first | refine pickE_intro _ ⟨by omega, by rfl⟩ ?_ | refine pickE_intro _ (by rfl) ?_) | fail); try simp -dsimp -implicitDefEqProofs (maxSteps := 1000000) (disch := first | omega | (simp only [LN, hz, hkn]; omega)) only [go_sem, Int.reduceToNat, Int.reducePow, Nat.reducePow, Int.reduceAdd, Int.reduceMul, Int.reduceSub, Int.reduceNeg, Nat.reduceAdd, Nat.reduceMul, Nat.reduceSub, Nat.reduceEqDiff, Nat.reduceLT, Nat.reduceLeDiff, hz, hkn])
          | fail)
        all_goals first | omega | (refine loopQ_next ((i + 1, x, s, r)) ?_ ?_ ?_; (exact ⟨by dsimp only; omega, hI, hcl⟩); (show _ < _; omega); (simp -dsimp -implicitDefEqProofs (maxSteps := 1000000) (disch := first | omega | (simp only [LN]; omega)) only [go_sem, Int.reduceToNat, Int.reducePow, Nat.reducePow, Int.reduceAdd, Int.reduceMul, Int.reduceSub, Int.reduceNeg, Nat.reduceAdd, Nat.reduceMul, Nat.reduceSub, Nat.reduceEqDiff, Nat.reduceLT, Nat.reduceLeDiff]; try trivial)) | trace_state
      | true =>
        have hkk := knows_rng hkn
        have hk256 : z.k % 256 = z.k := by omega
        have hok : OkS s x.cl.length := by
          rw [hI.st]
          have : ∀ j, j ≤ x.cl.length → OkS (stN k x.cl j) j := by
            intro j
            induction j with
            | zero => intro _; unfold stN; exact ok_ini k h3.1
            | succ j ih => intro hj; unfold stN; exact ok_apply (ih (by omega)) (hI.ops j (by omega)).2
          exact this _ (Nat.le_refl _)
        have g1 := hok.inv.ps
        have g2 := hok.inv.vs
        have k12 := Sp.c12 s ⟨z.k, z.key, z.val, z.old⟩ (Sp.sorted_pl.2 hok.inv.srt) (by omega) (by omega)
        have hv := res_rng (o := ⟨z.k, z.key, z.val, z.old⟩) hok hrs
        have kop := Hi.c19 z.k z.key z.val z.old
        rw [hk256] at kop
        have kin := Hi.a18o x (thM z.th) z.k z.key z.val z.old htr hkk (hI.b _) (by omega) (by omega)
        have hsa := fun rv ok code => seq_add hI (th := thM z.th) (o := ⟨z.k, z.key, z.val, z.old⟩) (rv := rv) (ok := ok) (code := code) htr.1 hkn hrs
        have hac := fun rv ok code => addC_cl x (thM z.th) z.k z.key z.val z.old rv ok code
        dsimp only at hsa
        generalize Sp.applyM s ⟨z.k, z.key, z.val, z.old⟩ = T at *
        obtain ⟨T1, T2v, T2b, T2e⟩ := T
        dsimp only at hsa hv
        have kre := fun rv ok code => Hi.a20o (Hi.invH x (thM z.th) z.k z.key z.val z.old) x.cl.length rv ok code ⟨⟨by omega, by unfold Hi.invH; simp; omega⟩, by unfold Hi.invH; dsimp only; rw [Int.toNat_natCast, Hi.gA_eq]; exact (by decide : (-1 : Int) < 0)⟩ (by unfold Hi.invH; dsimp only; rw [Int.toNat_natCast, Hi.gA_eq]; rfl) (by unfold Hi.invH; dsimp only; rw [Int.toNat_natCast, Hi.gA_eq]; exact htr) (by unfold Hi.invH; simp; omega) (by unfold Hi.invH; simp; omega)
        have hxx : ∀ rv ok code, Hi.retH (Hi.invH x (thM z.th) z.k z.key z.val z.old) x.cl.length rv ok code = addC x (thM z.th) z.k z.key z.val z.old rv ok code := fun rv ok code => by unfold addC; rfl
        simp only [hxx] at kre
        generalize Hi.invH x (thM z.th) z.k z.key z.val z.old = y at *
        by_cases hh : (x.cl.length : Int) = spoil ∧ bz ≠ 0
        · have kre := kre (IntKind.u64.wrap (T2v + bz)) T2b T2e
          have hsa := hsa (IntKind.u64.wrap (T2v + bz)) T2b T2e
          have hac := hac (IntKind.u64.wrap (T2v + bz)) T2b T2e
          rw [decide_eq_false (fun h => wrap_ne hv hbz hh.2 h.1), Bool.and_false] at hsa
          generalize addC x (thM z.th) z.k z.key z.val z.old (IntKind.u64.wrap (T2v + bz)) T2b T2e = x' at *
          have hlx : x'.cl.length = x.cl.length + 1 := by rw [hac]; simp
          repeat' (first
            | (with_reducible first | refine r_seq ?_ | refine r_block ?_ | refine fork_not ?_ | refine fork_and ?_ | refine fork_or ?_ | refine chk_ok (by kernel_rfl) ?_)
            | ((with_reducible first | refine fork_dec ?_ ?_ | refine fork_eq ?_ ?_ | refine fork_ne ?_ ?_ | refine fork_intro ?_ ?_) <;> intro h <;> try (exfalso; first | omega | exact h rfl | (revert h; decide) | (cases h; done)))
            | ((with_reducible show False); omega)
            | ((first | (with_reducible first | refine r_exit ?_ | refine r_skip ?_ | refine r_cond ?_ | refine r_region ?_ | show VX _ _ _ _ _ _ _ | show vstep _ _ _ _ _ | show vskip _ _ _ | show withV _ _) | ((with_reducible show endA _ _ _ _ _ _ _); simp -implicitDefEqProofs only [endA])); simp -dsimp -implicitDefEqProofs (maxSteps := 1000000) (disch := first | omega | (simp only [LN, hz, hkn, hwt]; omega)) only [go_sem, Int.reduceToNat, Int.reducePow, Nat.reducePow, Int.reduceAdd, Int.reduceMul, Int.reduceSub, Int.reduceNeg, Nat.reduceAdd, Nat.reduceMul, Nat.reduceSub, Nat.reduceEqDiff, Nat.reduceLT, Nat.reduceLeDiff, hz, hkn, hwt])
            | ((first | (with_reducible refine r_ret ?_) | (with_reducible refine pick_viewG default (by first | omega | (simp only [LN, hz, hkn, hwt]; omega)) (by first | omega | (simp only [LN, hz, hkn, hwt]; omega)) ?_) | (with_reducible refine pick_own default (by first | omega | (simp only [LN, hz, hkn, hwt]; omega)) ?_) | (with_reducible refine And.intro (by first | decide | omega | assumption | (simp only [LN, hz, hkn, hwt]; omega)) ?_) | ((with_reducible apply callK_pure); (first | exact k7 | exact k11 | exact k12 | exact kop | fail)) | ((with_reducible apply callF_lend); (first | exact k7 | exact k11 | exact k12 | exact kop | fail); rfl) | ((with_reducible apply callF_go); (first | exact k7 | exact k11 | exact k12 | exact kop | fail)) | (with_reducible first | apply callK_lent | apply callF_lent | apply hideP_own) | ((with_reducible apply callA_go); (first | exact k10 | exact kin | exact kre | fail)) | ((with_reducible show pickE _ _ _); first | refine pickE_intro _ ⟨by omega, by rfl⟩ ?_ | refine pickE_intro _ (by rfl) ?_) | fail); try simp -dsimp -implicitDefEqProofs (maxSteps := 1000000) (disch := first | omega | (simp only [LN, hz, hkn, hwt]; omega)) only [go_sem, Int.reduceToNat, Int.reducePow, Nat.reducePow, Int.reduceAdd, Int.reduceMul, Int.reduceSub, Int.reduceNeg, Nat.reduceAdd, Nat.reduceMul, Nat.reduceSub, Nat.reduceEqDiff, Nat.reduceLT, Nat.reduceLeDiff, hz, hkn, hwt])
            | fail)
          all_goals first
            | omega
            | (refine loopQ_next ((i + 1, x', T1, false)) ?_ ?_ ?_; (exact ⟨by dsimp only; omega, hsa, by dsimp only; omega⟩); (show _ < _; omega); (simp -dsimp -implicitDefEqProofs (maxSteps := 1000000) (disch := first | omega | (simp only [LN, cS]; omega)) only [go_sem, Int.reduceToNat, Int.reducePow, Nat.reducePow, Int.reduceAdd, Int.reduceMul, Int.reduceSub, Int.reduceNeg, Nat.reduceAdd, Nat.reduceMul, Nat.reduceSub, Nat.reduceEqDiff, Nat.reduceLT, Nat.reduceLeDiff, cS]; try trivial))
            | trace_state
        · have kre := kre T2v T2b T2e
          have hsa := hsa T2v T2b T2e
          have hac := hac T2v T2b T2e
          rw [decide_eq_true (show eqR (⟨T2v, T2b, T2e⟩ : Sp.R) ⟨T2v, T2b, T2e⟩ from ⟨rfl, rfl, rfl⟩), Bool.and_true] at hsa
          generalize addC x (thM z.th) z.k z.key z.val z.old T2v T2b T2e = x' at *
          have hlx : x'.cl.length = x.cl.length + 1 := by rw [hac]; simp
          repeat' (first
            | (with_reducible first | refine r_seq ?_ | refine r_block ?_ | refine fork_not ?_ | refine fork_and ?_ | refine fork_or ?_ | refine chk_ok (by kernel_rfl) ?_)
            | ((with_reducible first | refine fork_dec ?_ ?_ | refine fork_eq ?_ ?_ | refine fork_ne ?_ ?_ | refine fork_intro ?_ ?_) <;> intro h <;> try (exfalso; first | omega | exact h rfl | (revert h; decide) | (cases h; done)))
            | ((with_reducible show False); omega)
            | ((first | (with_reducible first | refine r_exit ?_ | refine r_skip ?_ | refine r_cond ?_ | refine r_region ?_ | show VX _ _ _ _ _ _ _ | show vstep _ _ _ _ _ | show vskip _ _ _ | show withV _ _) | ((with_reducible show endA _ _ _ _ _ _ _); simp -implicitDefEqProofs only [endA])); simp -dsimp -implicitDefEqProofs (maxSteps := 1000000) (disch := first | omega | (simp only [LN, hz, hkn, hwt]; omega)) only [go_sem, Int.reduceToNat, Int.reducePow, Nat.reducePow, Int.reduceAdd, Int.reduceMul, Int.reduceSub, Int.reduceNeg, Nat.reduceAdd, Nat.reduceMul, Nat.reduceSub, Nat.reduceEqDiff, Nat.reduceLT, Nat.reduceLeDiff, hz, hkn, hwt])
            | ((first | (with_reducible refine r_ret ?_) | (with_reducible refine pick_viewG default (by first | omega | (simp only [LN, hz, hkn, hwt]; omega)) (by first | omega | (simp only [LN, hz, hkn, hwt]; omega)) ?_) | (with_reducible refine pick_own default (by first | omega | (simp only [LN, hz, hkn, hwt]; omega)) ?_) | (with_reducible refine And.intro (by first | decide | omega | assumption | (simp only [LN, hz, hkn, hwt]; omega)) ?_) | ((with_reducible apply callK_pure); (first | exact k7 | exact k11 | exact k12 | exact kop | fail)) | ((with_reducible apply callF_lend); (first | exact k7 | exact k11 | exact k12 | exact kop | fail); rfl) | ((with_reducible apply callF_go); (first | exact k7 | exact k11 | exact k12 | exact kop | fail)) | (with_reducible first | apply callK_lent | apply callF_lent | apply hideP_own) | ((with_reducible apply callA_go); (first | exact k10 | exact kin | exact kre | fail)) | ((with_reducible show pickE _ _ _); first | refine pickE_intro _ ⟨by omega, by rfl⟩ ?_ | refine pickE_intro _ (by rfl) ?_) | fail); try simp -dsimp -implicitDefEqProofs (maxSteps := 1000000) (disch := first | omega | (simp only [LN, hz, hkn, hwt]; omega)) only [go_sem, Int.reduceToNat, Int.reducePow, Nat.reducePow, Int.reduceAdd, Int.reduceMul, Int.reduceSub, Int.reduceNeg, Nat.reduceAdd, Nat.reduceMul, Nat.reduceSub, Nat.reduceEqDiff, Nat.reduceLT, Nat.reduceLeDiff, hz, hkn, hwt])
            | fail)
          all_goals first
            | omega
            | (exfalso; exact hh ⟨by assumption, by assumption⟩)
            | (refine loopQ_next ((i + 1, x', T1, r)) ?_ ?_ ?_; (exact ⟨by dsimp only; omega, hsa, by dsimp only; omega⟩); (show _ < _; omega); (simp -dsimp -implicitDefEqProofs (maxSteps := 1000000) (disch := first | omega | (simp only [LN, cS]; omega)) only [go_sem, Int.reduceToNat, Int.reducePow, Nat.reducePow, Int.reduceAdd, Int.reduceMul, Int.reduceSub, Int.reduceNeg, Nat.reduceAdd, Nat.reduceMul, Nat.reduceSub, Nat.reduceEqDiff, Nat.reduceLT, Nat.reduceLeDiff, cS]; try trivial))
            | trace_state
    · have hro := fun i hi => (hI.ops i hi).2
      have h4 : examE k x.cl = 0 := exam_0 (by omega) fun i hi => not_bad h3.1 (hI.ops i hi).1
      have hc0 : checkE k x.cl = 0 := by unfold checkE; rw [if_neg (fun h => h h4), if_neg (by omega)]
      have hok : OkS s x.cl.length := by
        rw [hI.st]
        have : ∀ j, j ≤ x.cl.length → OkS (stN k x.cl j) j := by
          intro j
          induction j with
          | zero => intro _; unfold stN; exact ok_ini k h3.1
          | succ j ih => intro hj; unfold stN; exact ok_apply (ih (by omega)) (hI.ops j (by omega)).2
        exact this _ (Nat.le_refl _)
      have g1 := hok.inv.ps
      have g2 := hok.inv.vs
      have k13 := Sp.c13 s (by omega) (by omega)
      have k16 := o16 k x (Sp.contM s) hc0 hro
      obtain ⟨e1, e2⟩ := seq_check hI h3.1 (by omega)
      rw [e1] at e2 k16
      cases r with
      | false =>
        rw [if_neg Bool.false_ne_true] at k16
        repeat' (first
          | (with_reducible first | refine r_seq ?_ | refine r_block ?_ | refine fork_not ?_ | refine fork_and ?_ | refine fork_or ?_ | refine chk_ok (by kernel_rfl) ?_)
          | ((with_reducible first | refine fork_dec ?_ ?_ | refine fork_eq ?_ ?_ | refine fork_ne ?_ ?_ | refine fork_intro ?_ ?_) <;> intro h <;> try (exfalso; first | omega | exact h rfl | (revert h; decide) | (cases h; done)))
          | ((with_reducible show False); omega)
          | ((first | (with_reducible first | refine r_exit ?_ | refine r_skip ?_ | refine r_cond ?_ | refine r_region ?_ | show VX _ _ _ _ _ _ _ | show vstep _ _ _ _ _ | show vskip _ _ _ | show withV _ _) | ((with_reducible show endA _ _ _ _ _ _ _); simp -implicitDefEqProofs only [endA])); simp -dsimp -implicitDefEqProofs (maxSteps := 1000000) (disch := first | omega | (simp only [LN]; omega)) only [go_sem, Int.reduceToNat, Int.reducePow, Nat.reducePow, Int.reduceAdd, Int.reduceMul, Int.reduceSub, Int.reduceNeg, Nat.reduceAdd, Nat.reduceMul, Nat.reduceSub, Nat.reduceEqDiff, Nat.reduceLT, Nat.reduceLeDiff])
          | ((first | (with_reducible refine r_ret ?_) | (with_reducible refine pick_viewG default (by first | omega | (simp only [LN]; omega)) (by first | omega | (simp only [LN]; omega)) ?_) | (with_reducible refine pick_own default (by first | omega | (simp only [LN]; omega)) ?_) | (with_reducible refine And.intro (by first | decide | omega | assumption | (simp only [LN]; omega)) ?_) | ((with_reducible apply callK_pure); (exact k13)) | ((with_reducible apply callF_lend); (exact k13); rfl) | ((with_reducible apply callF_go); (exact k13)) | (with_reducible first | apply callK_lent | apply callF_lent | apply hideP_own) | ((with_reducible apply callA_go); (first | exact k10 | exact k16 | fail)) | ((with_reducible show pickE _ _ _); first | refine pickE_intro _ ⟨by omega, by rfl⟩ ?_ | refine pickE_intro _ (by rfl) ?_) | fail); try simp -dsimp -implicitDefEqProofs (maxSteps := 1000000) (disch := first | omega | (simp only [LN]; omega)) only [go_sem, Int.reduceToNat, Int.reducePow, Nat.reducePow, Int.reduceAdd, Int.reduceMul, Int.reduceSub, Int.reduceNeg, Nat.reduceAdd, Nat.reduceMul, Nat.reduceSub, Nat.reduceEqDiff, Nat.reduceLT, Nat.reduceLeDiff])
          | fail)
        all_goals try omega
        all_goals
          refine r_loopA (α := Nat) [9, 16, 17, 112, 113] (fun j b => [(114, aI j)]) (fun j b => []) (fun j => []) (fun j => j = 0) (fun j => 0) (0) ?h0_2 ?hs0_2 ?I_2 ?hI_2 ?round_2
          case hI_2 => intro x; (simp -dsimp -implicitDefEqProofs (maxSteps := 1000000) (disch := first | omega | (simp only [LN]; omega)) only [go_sem, Int.reduceToNat, Int.reducePow, Nat.reducePow, Int.reduceAdd, Int.reduceMul, Int.reduceSub, Int.reduceNeg, Nat.reduceAdd, Nat.reduceMul, Nat.reduceSub, Nat.reduceEqDiff, Nat.reduceLT, Nat.reduceLeDiff]) <;> exact rfl
          case hs0_2 => refine wk_auto ?_; (simp -dsimp -implicitDefEqProofs (maxSteps := 1000000) (disch := first | omega | (simp only [LN]; omega)) only [go_sem, Int.reduceToNat, Int.reducePow, Nat.reducePow, Int.reduceAdd, Int.reduceMul, Int.reduceSub, Int.reduceNeg, Nat.reduceAdd, Nat.reduceMul, Nat.reduceSub, Nat.reduceEqDiff, Nat.reduceLT, Nat.reduceLeDiff]) <;> (try omega)
          case h0_2 => rfl
          case round_2 =>
            rintro j rfl
            repeat' (first
              | (with_reducible first | refine r_seq ?_ | refine r_block ?_ | refine fork_not ?_ | refine fork_and ?_ | refine fork_or ?_ | refine chk_ok (by kernel_rfl) ?_)
              | ((with_reducible first | refine fork_dec ?_ ?_ | refine fork_eq ?_ ?_ | refine fork_ne ?_ ?_ | refine fork_intro ?_ ?_) <;> intro h <;> try (exfalso; first | omega | exact h rfl | (revert h; decide) | (cases h; done)))
              | ((with_reducible show False); omega)
              | ((first | (with_reducible first | refine r_exit ?_ | refine r_skip ?_ | refine r_cond ?_ | refine r_region ?_ | show VX _ _ _ _ _ _ _ | show vstep _ _ _ _ _ | show vskip _ _ _ | show withV _ _) | ((with_reducible show endA _ _ _ _ _ _ _); simp -implicitDefEqProofs only [endA])); simp -dsimp -implicitDefEqProofs (maxSteps := 1000000) (disch := first | omega | (simp only [LN]; omega)) only [go_sem, Int.reduceToNat, Int.reducePow, Nat.reducePow, Int.reduceAdd, Int.reduceMul, Int.reduceSub, Int.reduceNeg, Nat.reduceAdd, Nat.reduceMul, Nat.reduceSub, Nat.reduceEqDiff, Nat.reduceLT, Nat.reduceLeDiff])
              | ((first | (with_reducible refine r_ret ?_) | (with_reducible refine pick_viewG default (by first | omega | (simp only [LN]; omega)) (by first | omega | (simp only [LN]; omega)) ?_) | (with_reducible refine pick_own default (by first | omega | (simp only [LN]; omega)) ?_) | (with_reducible refine And.intro (by first | decide | omega | assumption | (simp only [LN]; omega)) ?_) | (with_reducible first | apply callK_lent | apply callF_lent | apply hideP_own) | ((with_reducible apply callA_go); (first | exact k10 | fail)) | ((with_reducible show pickE _ _ _); first | refine pickE_intro _ ⟨by omega, by rfl⟩ ?_ | refine pickE_intro _ (by rfl) ?_) | fail); try simp -dsimp -implicitDefEqProofs (maxSteps := 1000000) (disch := first | omega | (simp only [LN]; omega)) only [go_sem, Int.reduceToNat, Int.reducePow, Nat.reducePow, Int.reduceAdd, Int.reduceMul, Int.reduceSub, Int.reduceNeg, Nat.reduceAdd, Nat.reduceMul, Nat.reduceSub, Nat.reduceEqDiff, Nat.reduceLT, Nat.reduceLeDiff])
              | fail)
            all_goals first | rfl | omega | (rw [beqI, decide_eq_true rfl]; done) | trace_state
      | true =>
        rw [if_pos rfl, e2 rfl] at k16
        repeat' (first
          | (with_reducible first | refine r_seq ?_ | refine r_block ?_ | refine fork_not ?_ | refine fork_and ?_ | refine fork_or ?_ | refine chk_ok (by kernel_rfl) ?_)
          | ((with_reducible first | refine fork_dec ?_ ?_ | refine fork_eq ?_ ?_ | refine fork_ne ?_ ?_ | refine fork_intro ?_ ?_) <;> intro h <;> try (exfalso; first | omega | exact h rfl | (revert h; decide) | (cases h; done)))
          | ((with_reducible show False); omega)
          | ((first | (with_reducible first | refine r_exit ?_ | refine r_skip ?_ | refine r_cond ?_ | refine r_region ?_ | show VX _ _ _ _ _ _ _ | show vstep _ _ _ _ _ | show vskip _ _ _ | show withV _ _) | ((with_reducible show endA _ _ _ _ _ _ _); simp -implicitDefEqProofs only [endA])); simp -dsimp -implicitDefEqProofs (maxSteps := 1000000) (disch := first | omega | (simp only [LN]; omega)) only [go_sem, Int.reduceToNat, Int.reducePow, Nat.reducePow, Int.reduceAdd, Int.reduceMul, Int.reduceSub, Int.reduceNeg, Nat.reduceAdd, Nat.reduceMul, Nat.reduceSub, Nat.reduceEqDiff, Nat.reduceLT, Nat.reduceLeDiff])
          | ((first | (with_reducible refine r_ret ?_) | (with_reducible refine pick_viewG default (by first | omega | (simp only [LN]; omega)) (by first | omega | (simp only [LN]; omega)) ?_) | (with_reducible refine pick_own default (by first | omega | (simp only [LN]; omega)) ?_) | (with_reducible refine And.intro (by first | decide | omega | assumption | (simp only [LN]; omega)) ?_) | ((with_reducible apply callK_pure); (exact k13)) | ((with_reducible apply callF_lend); (exact k13); rfl) | ((with_reducible apply callF_go); (exact k13)) | (with_reducible first | apply callK_lent | apply callF_lent | apply hideP_own) | ((with_reducible apply callA_go); (first | exact k10 | exact k16 | fail)) | ((with_reducible show pickE _ _ _); first | refine pickE_intro _ ⟨by omega, by rfl⟩ ?_ | refine pickE_intro _ (by rfl) ?_) | fail); try simp -dsimp -implicitDefEqProofs (maxSteps := 1000000) (disch := first | omega | (simp only [LN]; omega)) only [go_sem, Int.reduceToNat, Int.reducePow, Nat.reducePow, Int.reduceAdd, Int.reduceMul, Int.reduceSub, Int.reduceNeg, Nat.reduceAdd, Nat.reduceMul, Nat.reduceSub, Nat.reduceEqDiff, Nat.reduceLT, Nat.reduceLeDiff])
          | fail)
        all_goals try omega
        all_goals
          refine r_loopA (α := Nat) [9, 16, 17, 112, 113] (fun j b => [(114, aI j)]) (fun j b => []) (fun j => []) (fun j => j ≤ x.cl.length) (fun j => x.cl.length - j) (0) ?h0_3 ?hs0_3 ?I_3 ?hI_3 ?round_3
          case hI_3 => intro x; (simp -dsimp -implicitDefEqProofs (maxSteps := 1000000) (disch := first | omega | (simp only [LN]; omega)) only [go_sem, Int.reduceToNat, Int.reducePow, Nat.reducePow, Int.reduceAdd, Int.reduceMul, Int.reduceSub, Int.reduceNeg, Nat.reduceAdd, Nat.reduceMul, Nat.reduceSub, Nat.reduceEqDiff, Nat.reduceLT, Nat.reduceLeDiff]) <;> exact rfl
          case hs0_3 => refine wk_auto ?_; (simp -dsimp -implicitDefEqProofs (maxSteps := 1000000) (disch := first | omega | (simp only [LN]; omega)) only [go_sem, Int.reduceToNat, Int.reducePow, Nat.reducePow, Int.reduceAdd, Int.reduceMul, Int.reduceSub, Int.reduceNeg, Nat.reduceAdd, Nat.reduceMul, Nat.reduceSub, Nat.reduceEqDiff, Nat.reduceLT, Nat.reduceLeDiff]) <;> (try omega)
          case h0_3 => exact Nat.zero_le _
          case round_3 =>
            intro j hj
            by_cases hj2 : j < x.cl.length
            · have hg : (List.range x.cl.length).getD j default = j := by rw [List.getD_eq_getElem?_getD, List.getElem?_range hj2]; rfl
              repeat' (first
                | (with_reducible first | refine r_seq ?_ | refine r_block ?_ | refine fork_not ?_ | refine fork_and ?_ | refine fork_or ?_ | refine chk_ok (by kernel_rfl) ?_)
                | ((with_reducible first | refine fork_dec ?_ ?_ | refine fork_eq ?_ ?_ | refine fork_ne ?_ ?_ | refine fork_intro ?_ ?_) <;> intro h <;> try (exfalso; first | omega | exact h rfl | (revert h; decide) | (cases h; done)))
                | ((with_reducible show False); omega)
                | ((first | (with_reducible first | refine r_exit ?_ | refine r_skip ?_ | refine r_cond ?_ | refine r_region ?_ | show VX _ _ _ _ _ _ _ | show vstep _ _ _ _ _ | show vskip _ _ _ | show withV _ _) | ((with_reducible show endA _ _ _ _ _ _ _); simp -implicitDefEqProofs only [endA])); simp -dsimp -implicitDefEqProofs (maxSteps := 1000000) (disch := first | omega | (simp only [LN, List.length_range, hg]; omega)) only [go_sem, Int.reduceToNat, Int.reducePow, Nat.reducePow, Int.reduceAdd, Int.reduceMul, Int.reduceSub, Int.reduceNeg, Nat.reduceAdd, Nat.reduceMul, Nat.reduceSub, Nat.reduceEqDiff, Nat.reduceLT, Nat.reduceLeDiff, List.length_range, hg])
                | ((first | (with_reducible refine r_ret ?_) | (with_reducible refine pick_viewG default (by first | omega | (simp only [LN, List.length_range, hg]; omega)) (by first | omega | (simp only [LN, List.length_range, hg]; omega)) ?_) | (with_reducible refine pick_own default (by first | omega | (simp only [LN, List.length_range, hg]; omega)) ?_) | (with_reducible refine And.intro (by first | decide | omega | assumption | (simp only [LN, List.length_range, hg]; omega)) ?_) | (with_reducible first | apply callK_lent | apply callF_lent | apply hideP_own) | ((with_reducible apply callA_go); (first | exact k10 | fail)) | ((with_reducible show pickE _ _ _); first | refine pickE_intro _ ⟨by omega, by rfl⟩ ?_ | refine pickE_intro _ (by rfl) ?_) | fail); try simp -dsimp -implicitDefEqProofs (maxSteps := 1000000) (disch := first | omega | (simp only [LN, List.length_range, hg]; omega)) only [go_sem, Int.reduceToNat, Int.reducePow, Nat.reducePow, Int.reduceAdd, Int.reduceMul, Int.reduceSub, Int.reduceNeg, Nat.reduceAdd, Nat.reduceMul, Nat.reduceSub, Nat.reduceEqDiff, Nat.reduceLT, Nat.reduceLeDiff, List.length_range, hg])
                | fail)
              all_goals first | omega | (refine loopQ_next (j + 1) ?_ ?_ ?_; (omega); (show _ < _; omega); (simp -dsimp -implicitDefEqProofs (maxSteps := 1000000) (disch := first | omega | (simp only [LN]; omega)) only [go_sem, Int.reduceToNat, Int.reducePow, Nat.reducePow, Int.reduceAdd, Int.reduceMul, Int.reduceSub, Int.reduceNeg, Nat.reduceAdd, Nat.reduceMul, Nat.reduceSub, Nat.reduceEqDiff, Nat.reduceLT, Nat.reduceLeDiff]; try trivial)) | trace_state
            · repeat' (first
                | (with_reducible first | refine r_seq ?_ | refine r_block ?_ | refine fork_not ?_ | refine fork_and ?_ | refine fork_or ?_ | refine chk_ok (by kernel_rfl) ?_)
                | ((with_reducible first | refine fork_dec ?_ ?_ | refine fork_eq ?_ ?_ | refine fork_ne ?_ ?_ | refine fork_intro ?_ ?_) <;> intro h <;> try (exfalso; first | omega | exact h rfl | (revert h; decide) | (cases h; done)))
                | ((with_reducible show False); omega)
                | ((first | (with_reducible first | refine r_exit ?_ | refine r_skip ?_ | refine r_cond ?_ | refine r_region ?_ | show VX _ _ _ _ _ _ _ | show vstep _ _ _ _ _ | show vskip _ _ _ | show withV _ _) | ((with_reducible show endA _ _ _ _ _ _ _); simp -implicitDefEqProofs only [endA])); simp -dsimp -implicitDefEqProofs (maxSteps := 1000000) (disch := first | omega | (simp only [LN, List.length_range]; omega)) only [go_sem, Int.reduceToNat, Int.reducePow, Nat.reducePow, Int.reduceAdd, Int.reduceMul, Int.reduceSub, Int.reduceNeg, Nat.reduceAdd, Nat.reduceMul, Nat.reduceSub, Nat.reduceEqDiff, Nat.reduceLT, Nat.reduceLeDiff, List.length_range])
                | ((first | (with_reducible refine r_ret ?_) | (with_reducible refine pick_viewG default (by first | omega | (simp only [LN, List.length_range]; omega)) (by first | omega | (simp only [LN, List.length_range]; omega)) ?_) | (with_reducible refine pick_own default (by first | omega | (simp only [LN, List.length_range]; omega)) ?_) | (with_reducible refine And.intro (by first | decide | omega | assumption | (simp only [LN, List.length_range]; omega)) ?_) | (with_reducible first | apply callK_lent | apply callF_lent | apply hideP_own) | ((with_reducible apply callA_go); (first | exact k10 | fail)) | ((with_reducible show pickE _ _ _); first | refine pickE_intro _ ⟨by omega, by rfl⟩ ?_ | refine pickE_intro _ (by rfl) ?_) | fail); try simp -dsimp -implicitDefEqProofs (maxSteps := 1000000) (disch := first | omega | (simp only [LN, List.length_range]; omega)) only [go_sem, Int.reduceToNat, Int.reducePow, Nat.reducePow, Int.reduceAdd, Int.reduceMul, Int.reduceSub, Int.reduceNeg, Nat.reduceAdd, Nat.reduceMul, Nat.reduceSub, Nat.reduceEqDiff, Nat.reduceLT, Nat.reduceLeDiff, List.length_range])
                | fail)
              all_goals first | rfl | omega | (rw [beqI, decide_eq_true rfl]; done) | trace_state
end Go.Proofs.YtpcjeaaplidmaaaDoor
