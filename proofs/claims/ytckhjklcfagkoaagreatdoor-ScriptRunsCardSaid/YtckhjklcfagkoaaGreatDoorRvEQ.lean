/- Contracts of functions of this program, and the plain facts that they rest on. No conditions. -/
import Derived.Test.YtckhjklcfagkoaaGreatDoorRvDQ
import Derived.Test.YtckhjklcfagkoaaGreatDoorJDvNQ
set_option linter.unusedSimpArgs false
set_option linter.unusedVariables false
namespace Go.Proofs.YtckhjklcfagkoaaGreatDoor
set_option maxHeartbeats 4000000
set_option maxRecDepth 100000
open Go Go.Ab
attribute [local irreducible] callK callF loopQ vstep vskip pickE hideP
attribute [local go_sem] rdO rlO lns_len eNt
structure NtOk (A : Dv) (M : MT) (N : Nat) : Prop where
 a : ∀ k, k < 8 → ∀ p, p ∈ M k → A.note k (.int .i64 p.1) = some p.2
 b : ∀ k, k < 8 → ∀ x v, A.note k x = some v → ∃ p, p ∈ M k ∧ x = .int .i64 p.1
 c : ∀ k, k < 8 → (M k).Pairwise fun p q => p.1 ≠ q.1
 l : ∀ k, k < 8 → (M k).length ≤ N
def nuM (A : Dv) (M : MT) (k r : Nat) : List (Nat × Int) := ((M k).filter fun p => decide (p.1 ≠ r)) ++ [(r, A.done r + (A.hist r).length)]
def flM (A : Dv) (M : MT) (k : Nat) (o : Int) : MT := if A.cntB (A.isB o) = true then upd M k (nuM (A.cnt k (A.isB o)) M k (o / 64).toNat) else M
theorem filt_s {l : List (Nat × Int)} {r i : Nat} (h : i < l.length) : (l.take (i + 1)).filter (fun p => decide (p.1 ≠ r)) = (l.take i).filter (fun p => decide (p.1 ≠ r)) ++ (if (l.getD i default).1 ≠ r then [l.getD i default] else []) := by
 rw [yE default h, List.filter_append]
 congr 1
 simp only [List.filter_cons, List.filter_nil, decide_eq_true_eq]
theorem rFlush (A : Dv) (M : MT) (N : Nat) (hM : NtOk A M N) (hN : N ≤ 1000000) (k : Nat) (hk : k < 8) (h : WF A) (hL : LO A) (o : Int) (ho : 0 ≤ o ∧ o ≤ 18446744073709551615) : ACalls Tryz.prog 46 [.loc 0 0, .p (.v (.int .i64 k)), .p (.v (.int .u64 o))] [rdO A M 1, rlO A] (.p (.tup [])) [rdO (A.flush k o) (flM A M k o) 1, rlO (A.flush k o)] := by
 refine yA (E := E) (fn := Tryz.f46) 75 [] rfl rfl rfl rfl (by decide) rfl rfl ?_
 have h6 := h.n6
 have kc := rCnt A M k hk (A.isB o) hL
 have e1 : IntKind.u64.wrap (o.tdiv 64) = o / 64 := by rw [Int.tdiv_eq_ediv_of_nonneg ho.1, IntKind.wrap_u64]; omega
 have e2 : IntKind.u64.wrap (A.n : Int) = A.n := by rw [IntKind.wrap_u64]; omega
 have e3 : IntKind.u64.wrap (o / 64) = o / 64 := by rw [IntKind.wrap_u64]; omega
 have e4 : decide (o / 64 < (A.n : Int)) = A.isB o := by unfold Dv.isB; rw [Bool.eq_iff_iff]; simp; omega
 by_cases hc : A.cntB (A.isB o) = true
 ·have hb : A.isB o = true := cntB_of hc
  simp [Dv.isB] at hb
  obtain ⟨r, hr⟩ : ∃ r, r = (o / 64).toNat := ⟨_, rfl⟩
  have hro : o / 64 = (r : Int) := by omega
  have hcp := cnt_p A k (A.isB o)
  have hrn : r < (A.cnt k (A.isB o)).n := by rw [hcp.1]; omega
  have hlen := h.len r (by omega)
  have hch := hcp.2.2.2.1
  have hcd := hcp.2.2.2.2.1
  have hg := lns_get (A.cnt k (A.isB o)) hrn
  have w1 : IntKind.i64.wrap (r : Int) = r := by rw [IntKind.wrap_i64]; omega
  have w2 : IntKind.i64.wrap ((A.cnt k (A.isB o)).done r + ((A.cnt k (A.isB o)).hist r).length) = (A.cnt k (A.isB o)).done r + ((A.cnt k (A.isB o)).hist r).length := by rw [hch, hcd, IntKind.wrap_i64]; omega
  rw [hc] at kc
  rw [show A.flush k o = (A.cnt k (A.isB o)).noted k r from by rw [hr]; exact if_pos hc]
  rw [show flM A M k o = upd M k (nuM (A.cnt k (A.isB o)) M k r) from by rw [hr]; exact if_pos hc]
  have hle := hM.l k hk
  rw [hro] at e1 e3 e4
  obtain ⟨L, hL2⟩ : ∃ L, L = M k := ⟨_, rfl⟩
  rw [← hL2] at hle
  have hnu : nuM (A.cnt k (A.isB o)) M k r = (L.filter fun p => decide (p.1 ≠ r)) ++ [(r, (A.cnt k (A.isB o)).done r + ((A.cnt k (A.isB o)).hist r).length)] := by rw [hL2]; rfl
  rw [hnu]
  obtain ⟨a1, a2, a3, a4, a5, a6⟩ : ((A.cnt k (A.isB o)).noted k r).n = (A.cnt k (A.isB o)).n ∧ ((A.cnt k (A.isB o)).noted k r).err = (A.cnt k (A.isB o)).err ∧ ((A.cnt k (A.isB o)).noted k r).off = (A.cnt k (A.isB o)).off ∧ ((A.cnt k (A.isB o)).noted k r).ex = (A.cnt k (A.isB o)).ex ∧ lnsR ((A.cnt k (A.isB o)).noted k r) = lnsR (A.cnt k (A.isB o)) ∧ leftR ((A.cnt k (A.isB o)).noted k r) = leftR (A.cnt k (A.isB o)) := ⟨rfl, rfl, rfl, rfl, rfl, rfl⟩
  generalize (A.cnt k (A.isB o)).noted k r = C at *
  generalize hB : A.cnt k (A.isB o) = B at *
  clear hnu
  rcases lt8 hk with rfl | rfl | rfl | rfl | rfl | rfl | rfl | rfl
  all_goals
   repeat' ((fail_if_success (with_reducible show awp _ _ (Code.region 3 _ _) _ _)); first
    | (with_reducible first | apply zY | apply zT | apply zM | apply zN | apply zO | refine chk_ok (by kernel_rfl) ?_)
    | ((with_reducible first | apply zP | apply zQ | apply zR | apply zL) <;> intro h <;> try (exfalso; first | omega | exact h rfl | (revert h; decide) | (cases h; done)))
    | ((with_reducible show False); omega)
    | ((first | (with_reducible first | apply zW | apply zV | apply zU | apply zS | apply zX | show VX _ _ _ _ _ _ _ | show vstep _ _ _ _ _ | show vskip _ _ _ | show withV _ _) | ((with_reducible show endA _ _ _ _ _ _ _); simp -implicitDefEqProofs only [endA]) | (with_reducible first | refine zB default (by first | omega | (simp only [LN, e1, e2, e3, e4, hro, w1]; omega)) (by first | omega | (simp only [LN, e1, e2, e3, e4, hro, w1]; omega)) ?_ | refine zC default (by first | omega | (simp only [LN, e1, e2, e3, e4, hro, w1]; omega)) ?_ | refine And.intro (by first | decide | omega | assumption | (simp only [LN, e1, e2, e3, e4, hro, w1]; omega)) ?_) | (with_reducible first | apply zG | apply zH | apply zI) | ((with_reducible apply zJ); (first | exact kc | fail)) | ((with_reducible show pickE _ _ _); first | refine zA _ ⟨by omega, by rfl⟩ ?_ | refine zA _ (by rfl) ?_) | fail); try simp -dsimp -implicitDefEqProofs (maxSteps := 1000000) (disch := first | omega | (simp only [LN, e1, e2, e3, e4, hro, w1]; omega)) only [go_sem, e1, e2, e3, e4, hro, w1])
    | fail)
   rw [← hL2]
   repeat' (first
    | (with_reducible first | apply zY | apply zT | apply zM | apply zN | apply zO | refine chk_ok (by kernel_rfl) ?_)
    | ((with_reducible first | apply zP | apply zQ | apply zR | apply zL) <;> intro h <;> try (exfalso; first | omega | exact h rfl | (revert h; decide) | (cases h; done)))
    | ((with_reducible show False); omega)
    | ((first | (with_reducible first | apply zW | apply zV | apply zU | apply zS | apply zX | show VX _ _ _ _ _ _ _ | show vstep _ _ _ _ _ | show vskip _ _ _ | show withV _ _) | ((with_reducible show endA _ _ _ _ _ _ _); simp -implicitDefEqProofs only [endA]) | (with_reducible first | refine zB default (by first | omega | (simp only [LN, e1, e2, e3, e4, hro, w1]; omega)) (by first | omega | (simp only [LN, e1, e2, e3, e4, hro, w1]; omega)) ?_ | refine zC default (by first | omega | (simp only [LN, e1, e2, e3, e4, hro, w1]; omega)) ?_ | refine And.intro (by first | decide | omega | assumption | (simp only [LN, e1, e2, e3, e4, hro, w1]; omega)) ?_) | ((with_reducible show pickE _ _ _); first | refine zA _ ⟨by omega, by rfl⟩ ?_ | refine zA _ (by rfl) ?_) | fail); try simp -dsimp -implicitDefEqProofs (maxSteps := 1000000) (disch := first | omega | (simp only [LN, e1, e2, e3, e4, hro, w1]; omega)) only [go_sem, e1, e2, e3, e4, hro, w1])
    | fail)
   refine r_loopA (α := Nat) [0, 1, 6, 32, 33] (fun i b => [(34, aI i), (7, .sl b 2 0 ((L.take i).filter fun p => decide (p.1 ≠ r)).length)]) (fun i b => []) (fun i => [.arr 2 (((L.take i).filter fun p => decide (p.1 ≠ r)).map eNt)]) (fun i => i ≤ L.length) (fun i => L.length - i) (0) ?_ ?_ ?_ ?_ ?_
   rotate_left 3
   ·intro x; (simp -dsimp -implicitDefEqProofs (maxSteps := 1000000) (disch := first | omega | (simp only [LN]; omega)) only [go_sem]) <;> exact rfl
   rotate_left 2
   ·refine wk_auto ?_; (simp -dsimp -implicitDefEqProofs (maxSteps := 1000000) (disch := first | omega | (simp only [LN, List.filter_nil, List.map_nil, List.length_nil, true_or, or_true]; omega)) only [go_sem, List.filter_nil, List.map_nil, List.length_nil, true_or, or_true]) <;> (try omega)
   rotate_left 1
   ·exact Nat.zero_le _
   ·intro i hi
    have w3 : IntKind.i64.wrap ((i : Int) + 1) = ((i + 1 : Nat) : Int) := by rw [IntKind.wrap_i64]; push_cast; omega
    have hf1 : ((L.take i).filter fun p => decide (p.1 ≠ r)).length ≤ i := Nat.le_trans (List.length_filter_le _ _) (by rw [List.length_take]; omega)
    have hf2 : (L.filter fun p => decide (p.1 ≠ r)).length ≤ L.length := List.length_filter_le _ _
    repeat' (first
     | (with_reducible first | apply zY | apply zT | apply zM | apply zN | apply zO | refine chk_ok (by kernel_rfl) ?_)
     | ((with_reducible first | apply zP | apply zQ | apply zR | apply zL) <;> intro h <;> try (exfalso; first | omega | exact h rfl | (revert h; decide) | (cases h; done)))
     | ((with_reducible show False); omega)
     | ((first | (with_reducible first | apply zW | apply zV | apply zU | apply zS | apply zX | show VX _ _ _ _ _ _ _ | show vstep _ _ _ _ _ | show vskip _ _ _ | show withV _ _) | ((with_reducible show endA _ _ _ _ _ _ _); simp -implicitDefEqProofs only [endA]) | (with_reducible first | refine zB default (by first | omega | (simp only [LN, w3, w1, w2, hg, lnP]; omega)) (by first | omega | (simp only [LN, w3, w1, w2, hg, lnP]; omega)) ?_ | refine zC default (by first | omega | (simp only [LN, w3, w1, w2, hg, lnP]; omega)) ?_ | refine And.intro (by first | decide | omega | assumption | (simp only [LN, w3, w1, w2, hg, lnP]; omega)) ?_) | ((with_reducible show pickE _ _ _); first | refine zA _ ⟨by omega, by rfl⟩ ?_ | refine zA _ (by rfl) ?_) | fail); try simp -dsimp -implicitDefEqProofs (maxSteps := 1000000) (disch := first | omega | (simp only [LN, w3, w1, w2, hg, lnP]; omega)) only [go_sem, w3, w1, w2, hg, lnP])
     | fail)
    all_goals try (have hil : i < L.length := by omega)
    all_goals try (have hfs := filt_s (r := r) hil)
    ·have hne : (L.getD i default).1 ≠ r := by omega
     rw [if_pos hne] at hfs
     (refine zZ (i + 1) ?_ ?_ ?_; (omega); (show _ < _; omega); (simp -dsimp -implicitDefEqProofs (maxSteps := 1000000) (disch := first | omega | (simp only [LN, hfs, List.map_append, List.map_cons, List.map_nil, List.length_append, List.length_cons, List.length_nil]; omega)) only [go_sem, hfs, List.map_append, List.map_cons, List.map_nil, List.length_append, List.length_cons, List.length_nil]; try trivial))
    ·have hne : ¬ (L.getD i default).1 ≠ r := by omega
     rw [if_neg hne, List.append_nil] at hfs
     (refine zZ (i + 1) ?_ ?_ ?_; (omega); (show _ < _; omega); (simp -dsimp -implicitDefEqProofs (maxSteps := 1000000) (disch := first | omega | (simp only [LN, hfs]; omega)) only [go_sem, hfs]; try trivial))
    ·simp [upd, a1, a2, a3, a4, a5, a6, eNt]
 ·simp only [Bool.not_eq_true] at hc
  rw [hc] at kc
  rw [show A.flush k o = A.cnt k (A.isB o) from by unfold Dv.flush; rw [hc]; rfl, show flM A M k o = M from by unfold flM; rw [hc]; rfl]
  repeat' (first
   | (with_reducible first | apply zY | apply zT | apply zM | apply zN | apply zO | refine chk_ok (by kernel_rfl) ?_)
   | ((with_reducible first | apply zP | apply zQ | apply zR | apply zL) <;> intro h <;> try (exfalso; first | omega | exact h rfl | (revert h; decide) | (cases h; done)))
   | ((with_reducible show False); omega)
   | ((first | (with_reducible first | apply zW | apply zV | apply zU | apply zS | apply zX | show VX _ _ _ _ _ _ _ | show vstep _ _ _ _ _ | show vskip _ _ _ | show withV _ _) | ((with_reducible show endA _ _ _ _ _ _ _); simp -implicitDefEqProofs only [endA]) | (with_reducible first | refine zB default (by first | omega | (simp only [LN, e1, e2, e3, e4]; omega)) (by first | omega | (simp only [LN, e1, e2, e3, e4]; omega)) ?_ | refine zC default (by first | omega | (simp only [LN, e1, e2, e3, e4]; omega)) ?_ | refine And.intro (by first | decide | omega | assumption | (simp only [LN, e1, e2, e3, e4]; omega)) ?_) | (with_reducible first | apply zG | apply zH | apply zI) | ((with_reducible apply zJ); (first | exact kc | fail)) | ((with_reducible show pickE _ _ _); first | refine zA _ ⟨by omega, by rfl⟩ ?_ | refine zA _ (by rfl) ?_) | fail); try simp -dsimp -implicitDefEqProofs (maxSteps := 1000000) (disch := first | omega | (simp only [LN, e1, e2, e3, e4]; omega)) only [go_sem, e1, e2, e3, e4])
   | fail)
end Go.Proofs.YtckhjklcfagkoaaGreatDoor
