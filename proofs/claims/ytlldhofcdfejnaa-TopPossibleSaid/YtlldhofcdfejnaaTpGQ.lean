/- Contracts of functions of this program, and the plain facts that they rest on. No conditions. -/
import Derived.Test.YtlldhofcdfejnaaTpFQ
set_option linter.unusedSimpArgs false
set_option linter.unusedVariables false
namespace Go.Proofs.Ytlldhofcdfejnaa
open Go Go.Ab
attribute [local irreducible] callK callF loopQ vstep vskip pickE hideP
set_option maxRecDepth 100000
def wB (p : List UInt8) (s : Int × Int) : List UInt8 := putM p s.1.toNat s.2 8
def wBs (p : List UInt8) (l : List (Int × Int)) : List UInt8 := l.foldl wB p
def imK (p : List UInt8) (h : Hs) (ds : List Nat) : Nat → List UInt8
 | 0 => p
 | a + 1 => wBs (imK p h ds a) ((h.getD a default).take (ds.getD a default))
theorem wBs_len (l : List (Int × Int)) : ∀ p, (wBs p l).length = p.length := by
 induction l with
 | nil => exact fun _ => rfl
 | cons s l ih => intro p; show (wBs (wB p s) l).length = _; rw [ih, wB, putM_len]
theorem imK_len (p : List UInt8) (h : Hs) (ds : List Nat) : ∀ a, (imK p h ds a).length = p.length
 | 0 => rfl
 | a + 1 => by rw [imK, wBs_len, imK_len p h ds a]
theorem wBs_s (p : List UInt8) (l : List (Int × Int)) {j : Nat} (hj : j < l.length) : wBs p (l.take (j + 1)) = wB (wBs p (l.take j)) (l.getD j default) := by
 unfold wBs; rw [take_getD default hj, List.foldl_append]; rfl
theorem wBs_0 (p : List UInt8) : wBs p [] = p := rfl
theorem imK_0 (p : List UInt8) (h : Hs) (ds : List Nat) : imK p h ds 0 = p := rfl
attribute [local go_sem] eHs eSet eNd eWr eI
set_option maxRecDepth 100000 in
set_option maxHeartbeats 4000000 in
theorem kImage (p : List UInt8) (d : List Nat) (H : Hs) (ds : List Nat) (hl : H.length ≤ 1000000) (hp : p.length ≤ 262144) (hd : ds.length = H.length) (hd2 : ∀ a, a < H.length → ds.getD a default ≤ (H.getD a default).length ∧ (H.getD a default).length ≤ 1000000) (hw : ∀ l, l ∈ H → ∀ s, s ∈ l → 0 ≤ s.1 ∧ s.1 + 8 ≤ p.length ∧ 0 ≤ s.2 ∧ s.2 ≤ 18446744073709551615) : PCalls Try.prog 22 [eSet p d H, .view 1 (ds.map eNd)] (eI (newM (imK p H ds H.length))) := by
 refine pcalls_facts ⟨_, rfl, rfl, by decide⟩ fun hf => ?_
 simp only [go_sem, big] at hf
 refine pcalls_of (E := E) (fn := Try.f22) 66 [.cell 4 30] rfl rfl rfl rfl (by decide) rfl ?_
 repeat' (first
  | (with_reducible first | refine r_seq ?_ | refine r_block ?_ | refine fork_not ?_ | refine fork_and ?_ | refine fork_or ?_ | refine chk_ok (by kernel_rfl) ?_)
  | ((with_reducible first | refine fork_dec ?_ ?_ | refine fork_eq ?_ ?_ | refine fork_ne ?_ ?_ | refine fork_intro ?_ ?_) <;> intro h)
  | ((with_reducible show False); omega)
  | ((first | (with_reducible first | refine r_exit ?_ | refine r_skip ?_ | refine r_cond ?_ | refine r_region ?_ | refine r_ret ?_ | show VX _ _ _ _ _ _ _ | show vstep _ _ _ _ _ | show vskip _ _ _ | show withV _ _) | ((with_reducible show endA _ _ _ _ _ _ _); simp -implicitDefEqProofs only [endA]) | (with_reducible first | refine pick_viewG default (by first | omega | (simp only [LN, List.length_replicate, Nat.le_refl, true_and]; omega)) (by first | omega | (simp only [LN, List.length_replicate, Nat.le_refl, true_and]; omega)) ?_ | refine pick_own default (by first | omega | (simp only [LN, List.length_replicate, Nat.le_refl, true_and]; omega)) ?_ | refine And.intro (by first | decide | omega | assumption | (simp only [LN, List.length_replicate, Nat.le_refl, true_and]; omega)) ?_) | ((with_reducible show pickE _ _ _); first | refine pickE_intro _ ⟨by omega, by rfl⟩ ?_ | refine pickE_intro _ (by rfl) ?_) | fail); try simp -dsimp -implicitDefEqProofs (maxSteps := 1000000) (disch := first | omega | (simp only [LN, List.length_replicate, Nat.le_refl, true_and]; omega)) only [go_sem, List.length_replicate, Nat.le_refl, true_and])
  | fail)
 refine r_loopA (α := Nat) [1, 4, 5, 22, 23] (fun a b => [(24, aI a)]) (fun a b => [(5, .arr 1 ((imK p H ds a).map eB))]) (fun a => []) (fun a => a ≤ H.length) (fun a => H.length - a) (0) ?h0_1 ?hs0_1 ?I_1 ?hI_1 ?round_1
 case hI_1 => intro x; (simp -dsimp -implicitDefEqProofs (maxSteps := 1000000) (disch := first | omega | (simp only [LN]; omega)) only [go_sem]) <;> exact rfl
 case hs0_1 => refine wk_auto ?_; (simp -dsimp -implicitDefEqProofs (maxSteps := 1000000) (disch := first | omega | (simp only [LN, imK_0, List.drop_replicate, Nat.sub_self, List.replicate_zero, List.append_nil]; omega)) only [go_sem, imK_0, List.drop_replicate, Nat.sub_self, List.replicate_zero, List.append_nil]) <;> (try omega)
 case h0_1 => exact Nat.zero_le _
 case round_1 =>
  intro a ha
  have il := imK_len p H ds a
  by_cases ha2 : a < H.length
  ·obtain ⟨e1, e2⟩ := hd2 a ha2
   have hm : H.getD a default ∈ H := by rw [List.getD_eq_getElem?_getD, List.getElem?_eq_getElem ha2]; exact List.getElem_mem ha2
   have hs : imK p H ds (a + 1) = wBs (imK p H ds a) ((H.getD a default).take (ds.getD a default)) := rfl
   have hww := hw _ hm
   have w3 : IntKind.i64.wrap ((a : Int) + 1) = ((a + 1 : Nat) : Int) := by rw [IntKind.wrap_i64]; push_cast; omega
   generalize hxx : H.getD a default = x at *
   generalize hcc : ds.getD a default = c at *
   have z1 : (0 : Int) ≤ (c : Int) := Int.natCast_nonneg c
   have z2 : ((c : Int) ≤ (x.length : Int)) = True := eq_true (by omega)
   have z3 : (x.take c).length = c := by rw [List.length_take]; omega
   repeat' (first
    | (with_reducible first | refine r_seq ?_ | refine r_block ?_ | refine fork_not ?_ | refine fork_and ?_ | refine fork_or ?_ | refine chk_ok (by kernel_rfl) ?_)
    | ((with_reducible first | refine fork_dec ?_ ?_ | refine fork_eq ?_ ?_ | refine fork_ne ?_ ?_ | refine fork_intro ?_ ?_) <;> intro h <;> try (exfalso; first | omega | exact h rfl | (revert h; decide) | (cases h; done)))
    | ((with_reducible show False); omega)
    | ((first | (with_reducible first | refine r_exit ?_ | refine r_skip ?_ | refine r_cond ?_ | refine r_region ?_ | refine r_ret ?_ | show VX _ _ _ _ _ _ _ | show vstep _ _ _ _ _ | show vskip _ _ _ | show withV _ _) | ((with_reducible show endA _ _ _ _ _ _ _); simp -implicitDefEqProofs only [endA]) | (with_reducible first | refine pick_viewG default (by first | omega | (simp only [LN, hxx, hcc, z1, z2, true_and]; omega)) (by first | omega | (simp only [LN, hxx, hcc, z1, z2, true_and]; omega)) ?_ | refine pick_own default (by first | omega | (simp only [LN, hxx, hcc, z1, z2, true_and]; omega)) ?_ | refine And.intro (by first | decide | omega | assumption | (simp only [LN, hxx, hcc, z1, z2, true_and]; omega)) ?_) | ((with_reducible show pickE _ _ _); first | refine pickE_intro _ ⟨by omega, by rfl⟩ ?_ | refine pickE_intro _ (by rfl) ?_) | fail); try simp -dsimp -implicitDefEqProofs (maxSteps := 1000000) (disch := first | omega | (simp only [LN, hxx, hcc, z1, z2, true_and]; omega)) only [go_sem, hxx, hcc, z1, z2, true_and])
    | fail)
   ·refine r_loopA (α := Nat) [1, 4, 5, 22, 23, 24, 34, 35] (fun j b => [(36, aI j)]) (fun j b => [(5, .arr 1 ((wBs (imK p H ds a) (x.take j)).map eB))]) (fun j => []) (fun j => j ≤ c) (fun j => c - j) (0) ?h0_2 ?hs0_2 ?I_2 ?hI_2 ?round_2
    case hI_2 => intro x; (simp -dsimp -implicitDefEqProofs (maxSteps := 1000000) (disch := first | omega | (simp only [LN]; omega)) only [go_sem]) <;> exact rfl
    case hs0_2 => refine wk_auto ?_; (simp -dsimp -implicitDefEqProofs (maxSteps := 1000000) (disch := first | omega | (simp only [LN, List.take_zero, wBs_0]; omega)) only [go_sem, List.take_zero, wBs_0]) <;> (try omega)
    case h0_2 => exact Nat.zero_le _
    case round_2 =>
     intro j hj
     have jl := wBs_len (x.take j) (imK p H ds a)
     have v3 : IntKind.i64.wrap ((j : Int) + 1) = ((j + 1 : Nat) : Int) := by rw [IntKind.wrap_i64]; push_cast; omega
     by_cases hj2 : j < c
     ·have ht := wBs_s (imK p H ds a) x (show j < x.length by omega)
      have hg : (x.take c).getD j default = x.getD j default := by rw [List.getD_eq_getElem?_getD, List.getD_eq_getElem?_getD, List.getElem?_take, if_pos hj2]
      have hmm : x.getD j default ∈ x := by rw [List.getD_eq_getElem?_getD, List.getElem?_eq_getElem (show j < x.length by omega)]; exact List.getElem_mem _
      obtain ⟨s0, s1, s2, s3⟩ := hww _ hmm
      obtain ⟨⟨n0, n1⟩, hy⟩ : ∃ y, x.getD j default = y := ⟨_, rfl⟩
      rw [hy] at ht hg hmm s0 s1 s2 s3
      obtain ⟨n, rfl⟩ : ∃ n : Nat, n0 = (n : Int) := ⟨n0.toNat, by omega⟩
      dsimp only at s0 s1 s2 s3
      repeat' (first
       | (with_reducible first | refine r_seq ?_ | refine r_block ?_ | refine fork_not ?_ | refine fork_and ?_ | refine fork_or ?_ | refine chk_ok (by kernel_rfl) ?_)
       | ((with_reducible first | refine fork_dec ?_ ?_ | refine fork_eq ?_ ?_ | refine fork_ne ?_ ?_ | refine fork_intro ?_ ?_) <;> intro h <;> try (exfalso; first | omega | exact h rfl | (revert h; decide) | (cases h; done)))
       | ((with_reducible show False); omega)
       | ((first | (with_reducible first | refine r_exit ?_ | refine r_skip ?_ | refine r_cond ?_ | refine r_region ?_ | refine r_ret ?_ | show VX _ _ _ _ _ _ _ | show vstep _ _ _ _ _ | show vskip _ _ _ | show withV _ _) | ((with_reducible show endA _ _ _ _ _ _ _); simp -implicitDefEqProofs only [endA]) | (with_reducible first | refine pick_viewG default (by first | omega | (simp only [LN, hg, z3]; omega)) (by first | omega | (simp only [LN, hg, z3]; omega)) ?_ | refine pick_own default (by first | omega | (simp only [LN, hg, z3]; omega)) ?_ | refine And.intro (by first | decide | omega | assumption | (simp only [LN, hg, z3]; omega)) ?_) | ((with_reducible show pickE _ _ _); first | refine pickE_intro _ ⟨by omega, by rfl⟩ ?_ | refine pickE_intro _ (by rfl) ?_) | fail); try simp -dsimp -implicitDefEqProofs (maxSteps := 1000000) (disch := first | omega | (simp only [LN, hg, z3]; omega)) only [go_sem, hg, z3])
       | fail)
      refine r_loopA (α := Nat) [1, 4, 5, 9, 22, 23, 24, 34, 35, 36] (fun k b => [(40, aI k)]) (fun k b => [(5, .arr 1 ((putM (wBs (imK p H ds a) (x.take j)) n n1 k).map eB))]) (fun k => []) (fun k => k ≤ 8) (fun k => 8 - k) (0) ?h0_3 ?hs0_3 ?I_3 ?hI_3 ?round_3
      case hI_3 => intro x; (simp -dsimp -implicitDefEqProofs (maxSteps := 1000000) (disch := first | omega | (simp only [LN]; omega)) only [go_sem]) <;> exact rfl
      case hs0_3 => refine wk_auto ?_; (simp -dsimp -implicitDefEqProofs (maxSteps := 1000000) (disch := first | omega | (simp only [LN, putM_0]; omega)) only [go_sem, putM_0]) <;> (try omega)
      case h0_3 => exact Nat.zero_le _
      case round_3 =>
       intro k hk
       have u3 : IntKind.i64.wrap ((k : Int) + 1) = ((k + 1 : Nat) : Int) := by rw [IntKind.wrap_i64]; push_cast; omega
       by_cases hk2 : k < 8
       ·have hps := put_step (wBs (imK p H ds a) (x.take j)) n k n1 hk2
        have w5 : IntKind.i64.wrap (n : Int) = n := i64w (by omega) (by omega)
        have w6 : IntKind.i64.wrap ((n : Int) + k) = ((n + k : Nat) : Int) := (i64w (by omega) (by omega)).trans (by push_cast; rfl)
        have w7 : IntKind.i64.wrap (8 * (k : Int)) = 8 * (k : Int) := i64w (by omega) (by omega)
        repeat' (first
         | (with_reducible first | refine r_seq ?_ | refine r_block ?_ | refine fork_not ?_ | refine fork_and ?_ | refine fork_or ?_ | refine chk_ok (by kernel_rfl) ?_)
         | ((with_reducible first | refine fork_dec ?_ ?_ | refine fork_eq ?_ ?_ | refine fork_ne ?_ ?_ | refine fork_intro ?_ ?_) <;> intro h <;> try (exfalso; first | omega | exact h rfl | (revert h; decide) | (cases h; done)))
         | ((with_reducible show False); omega)
         | ((first | (with_reducible first | refine r_exit ?_ | refine r_skip ?_ | refine r_cond ?_ | refine r_region ?_ | refine r_ret ?_ | show VX _ _ _ _ _ _ _ | show vstep _ _ _ _ _ | show vskip _ _ _ | show withV _ _) | ((with_reducible show endA _ _ _ _ _ _ _); simp -implicitDefEqProofs only [endA]) | (with_reducible first | refine pick_viewG default (by first | omega | (simp only [LN, w5, w6, w7, putM_len, jl, il]; omega)) (by first | omega | (simp only [LN, w5, w6, w7, putM_len, jl, il]; omega)) ?_ | refine pick_own default (by first | omega | (simp only [LN, w5, w6, w7, putM_len, jl, il]; omega)) ?_ | refine And.intro (by first | decide | omega | assumption | (simp only [LN, w5, w6, w7, putM_len, jl, il]; omega)) ?_) | ((with_reducible show pickE _ _ _); first | refine pickE_intro _ ⟨by omega, by rfl⟩ ?_ | refine pickE_intro _ (by rfl) ?_) | fail); try simp -dsimp -implicitDefEqProofs (maxSteps := 1000000) (disch := first | omega | (simp only [LN, w5, w6, w7, putM_len, jl, il]; omega)) only [go_sem, w5, w6, w7, putM_len, jl, il])
         | fail)
        all_goals first | omega | ((refine loopQ_next (k + 1) ?_ ?_ ?_; (omega); (show _ < _; omega); (simp -dsimp -implicitDefEqProofs (maxSteps := 1000000) (disch := first | omega | (simp only [LN, u3, hps]; omega)) only [go_sem, u3, hps]; try trivial)))
       ·obtain rfl : k = 8 := by omega
        clear u3
        repeat' (first
         | (with_reducible first | refine r_seq ?_ | refine r_block ?_ | refine fork_not ?_ | refine fork_and ?_ | refine fork_or ?_ | refine chk_ok (by kernel_rfl) ?_)
         | ((with_reducible first | refine fork_dec ?_ ?_ | refine fork_eq ?_ ?_ | refine fork_ne ?_ ?_ | refine fork_intro ?_ ?_) <;> intro h <;> try (exfalso; first | omega | exact h rfl | (revert h; decide) | (cases h; done)))
         | ((with_reducible show False); omega)
         | ((first | (with_reducible first | refine r_exit ?_ | refine r_skip ?_ | refine r_cond ?_ | refine r_region ?_ | refine r_ret ?_ | show VX _ _ _ _ _ _ _ | show vstep _ _ _ _ _ | show vskip _ _ _ | show withV _ _) | ((with_reducible show endA _ _ _ _ _ _ _); simp -implicitDefEqProofs only [endA]) | (with_reducible first | refine pick_viewG default (by first | omega | (simp only [LN]; omega)) (by first | omega | (simp only [LN]; omega)) ?_ | refine pick_own default (by first | omega | (simp only [LN]; omega)) ?_ | refine And.intro (by first | decide | omega | assumption | (simp only [LN]; omega)) ?_) | ((with_reducible show pickE _ _ _); first | refine pickE_intro _ ⟨by omega, by rfl⟩ ?_ | refine pickE_intro _ (by rfl) ?_) | fail); try simp -dsimp -implicitDefEqProofs (maxSteps := 1000000) (disch := first | omega | (simp only [LN]; omega)) only [go_sem])
         | fail)
        all_goals first | omega | ((refine loopQ_next (j + 1) ?_ ?_ ?_; (omega); (show _ < _; omega); (simp -dsimp -implicitDefEqProofs (maxSteps := 1000000) (disch := first | omega | (simp only [LN, v3, ht, wB, Int.toNat_natCast]; omega)) only [go_sem, v3, ht, wB, Int.toNat_natCast]; try trivial)))
     ·obtain rfl : j = c := by omega
      clear v3
      repeat' (first
       | (with_reducible first | refine r_seq ?_ | refine r_block ?_ | refine fork_not ?_ | refine fork_and ?_ | refine fork_or ?_ | refine chk_ok (by kernel_rfl) ?_)
       | ((with_reducible first | refine fork_dec ?_ ?_ | refine fork_eq ?_ ?_ | refine fork_ne ?_ ?_ | refine fork_intro ?_ ?_) <;> intro h <;> try (exfalso; first | omega | exact h rfl | (revert h; decide) | (cases h; done)))
       | ((with_reducible show False); omega)
       | ((first | (with_reducible first | refine r_exit ?_ | refine r_skip ?_ | refine r_cond ?_ | refine r_region ?_ | refine r_ret ?_ | show VX _ _ _ _ _ _ _ | show vstep _ _ _ _ _ | show vskip _ _ _ | show withV _ _) | ((with_reducible show endA _ _ _ _ _ _ _); simp -implicitDefEqProofs only [endA]) | (with_reducible first | refine pick_viewG default (by first | omega | (simp only [LN, z3]; omega)) (by first | omega | (simp only [LN, z3]; omega)) ?_ | refine pick_own default (by first | omega | (simp only [LN, z3]; omega)) ?_ | refine And.intro (by first | decide | omega | assumption | (simp only [LN, z3]; omega)) ?_) | ((with_reducible show pickE _ _ _); first | refine pickE_intro _ ⟨by omega, by rfl⟩ ?_ | refine pickE_intro _ (by rfl) ?_) | fail); try simp -dsimp -implicitDefEqProofs (maxSteps := 1000000) (disch := first | omega | (simp only [LN, z3]; omega)) only [go_sem, z3])
       | fail)
      all_goals first | omega | ((refine loopQ_next (a + 1) ?_ ?_ ?_; (omega); (show _ < _; omega); (simp -dsimp -implicitDefEqProofs (maxSteps := 1000000) (disch := first | omega | (simp only [LN, w3, hs]; omega)) only [go_sem, w3, hs]; try trivial)))
   all_goals first | omega
  ·obtain rfl : a = H.length := by omega
   have k14 := c14 (imK p H ds H.length)
   repeat' (first
    | (with_reducible first | refine r_seq ?_ | refine r_block ?_ | refine fork_not ?_ | refine fork_and ?_ | refine fork_or ?_ | refine chk_ok (by kernel_rfl) ?_)
    | ((with_reducible first | refine fork_dec ?_ ?_ | refine fork_eq ?_ ?_ | refine fork_ne ?_ ?_ | refine fork_intro ?_ ?_) <;> intro h <;> try (exfalso; first | omega | exact h rfl | (revert h; decide) | (cases h; done)))
    | ((with_reducible show False); omega)
    | ((first | (with_reducible first | refine r_exit ?_ | refine r_skip ?_ | refine r_cond ?_ | refine r_region ?_ | refine r_ret ?_ | show VX _ _ _ _ _ _ _ | show vstep _ _ _ _ _ | show vskip _ _ _ | show withV _ _) | ((with_reducible show endA _ _ _ _ _ _ _); simp -implicitDefEqProofs only [endA]) | (with_reducible first | refine pick_viewG default (by first | omega | (simp only [LN]; omega)) (by first | omega | (simp only [LN]; omega)) ?_ | refine pick_own default (by first | omega | (simp only [LN]; omega)) ?_ | refine And.intro (by first | decide | omega | assumption | (simp only [LN]; omega)) ?_) | ((with_reducible apply callK_pure); (exact k14)) | ((with_reducible apply callF_lend); (exact k14); rfl) | ((with_reducible apply callF_go); (exact k14)) | ((with_reducible show pickE _ _ _); first | refine pickE_intro _ ⟨by omega, by rfl⟩ ?_ | refine pickE_intro _ (by rfl) ?_) | fail); try simp -dsimp -implicitDefEqProofs (maxSteps := 1000000) (disch := first | omega | (simp only [LN]; omega)) only [go_sem])
    | fail)
   all_goals first | omega | (simp; done)
end Go.Proofs.Ytlldhofcdfejnaa