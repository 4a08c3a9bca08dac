/- Contracts of functions of this program, and the plain facts that they rest on. No conditions. -/
import Derived.Test.YtlkffmmgcoiniaaDoorD31
set_option linter.unusedSimpArgs false
set_option linter.unusedVariables false
namespace Go.Proofs.YtlkffmmgcoiniaaDoor
open Go Go.Ab
attribute [local irreducible] callK callF loopQ vstep vskip pickE hideP
open Go.RowKit
set_option maxRecDepth 100000
attribute [local go_sem] eF rF eS eP eX rX eQ eL eT errP
def wsN (ws : List (List UInt8)) : Nat := (ws.length - 4) / 2
def pfB (ws : List (List UInt8)) (i : Nat) : F × Bool := pfM (ws.getD (3 + 2 * i) default) (ws.getD (4 + 2 * i) default)
def pfs (ws : List (List UInt8)) (j : Nat) : List F := (List.range j).map fun i => (pfB ws i).1
theorem pfs_0 (ws : List (List UInt8)) : (pfs ws 0).map eF = [] := rfl
theorem pfs_s (ws : List (List UInt8)) (j : Nat) : pfs ws (j + 1) = pfs ws j ++ [(pfB ws j).1] := by simp [pfs, List.range_succ]
theorem pfs_len (ws : List (List UInt8)) (j : Nat) : (pfs ws j).length = j := by simp [pfs]
theorem pfs_at (ws : List (List UInt8)) {j i : Nat} (h : i < j) : (pfs ws j).getD i default = (pfB ws i).1 := by
  unfold pfs
  rw [List.getD_eq_getElem?_getD, List.getElem?_map, List.getElem?_range h]; rfl
structure OkHead (ws : List (List UInt8)) (v : Int) : Prop where
  len : 6 ≤ ws.length ∧ ws.length % 2 = 0
  pre : Lib.hasPrefix (ws.getD 1 default) [118] = true
  num : atoiM (Lib.trimPrefix (ws.getD 1 default) [118]) = some v
def parX (ws : List (List UInt8)) (v : Int) : X := ⟨ws.getD 0 default, v, pfs ws (wsN ws)⟩
theorem parX_ty (ws : List (List UInt8)) (v : Int) : ∀ i, i < (parX ws v).fs.length → 0 ≤ ((parX ws v).fs.getD i default).ty ∧ ((parX ws v).fs.getD i default).ty < 256 := fun i hi => by
  have hi' : i < wsN ws := by have := pfs_len ws (wsN ws); rw [← this]; exact hi
  show 0 ≤ ((pfs ws (wsN ws)).getD i default).ty ∧ ((pfs ws (wsN ws)).getD i default).ty < 256
  rw [pfs_at ws hi']
  exact pfM_ty _ _
theorem trimP_len (l : List UInt8) (x : UInt8) : (Lib.trimPrefix l [x]).length ≤ l.length := by
  unfold Lib.trimPrefix; split
  · rw [List.length_drop]; omega
  · exact Nat.le_refl _
theorem getD_mem_len {ws : List (List UInt8)} {B : Nat} (h : ∀ w, w ∈ ws → w.length ≤ B) (i : Nat) : (ws.getD i default).length ≤ B := by
  rw [List.getD_eq_getElem?_getD]
  cases hi : ws[i]? with
  | none => exact Nat.zero_le _
  | some w => exact h w (List.mem_of_getElem? hi)
theorem join_len (x : UInt8) : ∀ (ws : List (List UInt8)) w, w ∈ ws → w.length ≤ (joinL x ws).length
  | [], w, h => by simp at h
  | [v], w, h => by rw [List.mem_singleton.1 h]; exact Nat.le_refl _
  | v :: u :: ws, w, h => by
    rw [joinL, List.length_append, List.length_cons]
    rcases List.mem_cons.1 h with rfl | h
    · omega
    · have := join_len x (u :: ws) w h
      omega
theorem c14p (ws : List (List UInt8)) (v : Int) (hl : ws.length ≤ 1000001) : PCalls Tryd.prog 14 [.v (.string (bs (ws.getD 0 default))), .v (.int .i64 v), .view 3 ((pfs ws (wsN ws)).map eF)] (.tup [eL (layM (parX ws v)), .v (.int .i64 (newE (parX ws v)))]) :=
  c14 (parX ws v) (by show (pfs ws (wsN ws)).length ≤ _; rw [pfs_len]; unfold wsN; omega) (parX_ty ws v)
attribute [local irreducible] pfM parX pfs newE layM
set_option maxRecDepth 100000 in
set_option maxHeartbeats 4000000 in
theorem c54 (ws : List (List UInt8)) (hne : ws ≠ []) (hsp : ∀ w, w ∈ ws → (32 : UInt8) ∉ w) (hl : (joinL 32 ws).length ≤ 1000000) (hl2 : ws.length ≤ 1000001) (m : La) (b : Bool)   (hg : ∀ v, OkHead ws v → (∀ i, i < wsN ws → (pfB ws i).2 = true) → m = layM (parX ws v) ∧ b = (newE (parX ws v) == 0))   (hb : (¬ ∃ v, OkHead ws v ∧ ∀ i, i < wsN ws → (pfB ws i).2 = true) → m = ⟨[], 0, [], 0⟩ ∧ b = false) : PCalls Tryd.prog 54 [.v (.string (bs (joinL 32 ws)))] (.tup [eL m, .v (.bool b)]) := by
  refine pcalls_of (E := E) (fn := Tryd.f54) 85 [.cell 2 29, .tmp 3] rfl rfl rfl rfl (by decide) rfl ?_
  have c62w := c62 ws hne hsp hl hl2
  have hwl := join_len 32 ws
  have hwd : ∀ i, (ws.getD i default).length ≤ 1000000 := fun i => Nat.le_trans (getD_mem_len hwl i) hl
  by_cases hlen : 6 ≤ ws.length ∧ ws.length % 2 = 0
  · have htl := trimP_len (ws.getD 1 default) 118
    have hw1 := hwd 1
    have hpar : (ws.length : Int).tmod 2 = 0 := by rw [tmod_nn (by omega)]; omega
    cases hp : Lib.hasPrefix (ws.getD 1 default) [118] with
    | false =>
      obtain ⟨em, eb⟩ := hb (fun ⟨v, h, _⟩ => by rw [h.pre] at hp; cases hp)
      subst em eb
      cases ha : atoiM (Lib.trimPrefix (ws.getD 1 default) [118]) with
      | some v =>
        repeat' (first
          | (with_reducible first | refine r_seq ?_ | refine r_block ?_ | refine fork_not ?_ | refine fork_and ?_ | refine fork_or ?_ | refine chk_ok (by kernel_rfl) ?_)
          | ((with_reducible first | refine fork_dec ?_ ?_ | refine fork_eq ?_ ?_ | refine fork_ne ?_ ?_ | refine fork_intro ?_ ?_) <;> intro h <;> try (exfalso; first | omega | exact h rfl | (revert h; decide) | (cases h; done)))
          | ((with_reducible show False); omega)
          | ((first | (with_reducible first | refine r_exit ?_ | refine r_skip ?_ | refine r_cond ?_ | refine r_region ?_ | show VX _ _ _ _ _ _ _ | show vstep _ _ _ _ _ | show vskip _ _ _ | show withV _ _) | ((with_reducible show endA _ _ _ _ _ _ _); simp -implicitDefEqProofs only [endA])); simp -dsimp -implicitDefEqProofs (maxSteps := 1000000) (disch := first | omega | (simp only [LN, hp, hpar]; omega)) only [go_sem, Int.reduceToNat, Int.reducePow, Nat.reducePow, Int.reduceAdd, Int.reduceMul, Int.reduceSub, Int.reduceNeg, Nat.reduceAdd, Nat.reduceMul, Nat.reduceSub, Nat.reduceEqDiff, Nat.reduceLT, Nat.reduceLeDiff, hp, hpar])
          | ((first | (with_reducible refine r_ret ?_) | (with_reducible refine pick_viewG default (by first | omega | (simp only [LN, hp, hpar]; omega)) (by first | omega | (simp only [LN, hp, hpar]; omega)) ?_) | (with_reducible refine pick_own default (by first | omega | (simp only [LN, hp, hpar]; omega)) ?_) | (with_reducible refine And.intro (by first | decide | omega | assumption | (simp only [LN, hp, hpar]; omega)) ?_) | ((with_reducible apply callK_pure); (first | exact c62w | exact c63 _ 118 | exact c64ok _ (by omega) v (atoiM_some ha) | fail)) | ((with_reducible apply callF_lend); (first | exact c62w | exact c63 _ 118 | exact c64ok _ (by omega) v (atoiM_some ha) | fail); rfl) | ((with_reducible apply callF_go); (first | exact c62w | exact c63 _ 118 | exact c64ok _ (by omega) v (atoiM_some ha) | fail)) | ((with_reducible show pickE _ _ _); first | refine pickE_intro _ ⟨by omega, by rfl⟩ ?_ | refine pickE_intro _ (by rfl) ?_) | fail); try simp -dsimp -implicitDefEqProofs (maxSteps := 1000000) (disch := first | omega | (simp only [LN, hp, hpar]; omega)) only [go_sem, Int.reduceToNat, Int.reducePow, Nat.reducePow, Int.reduceAdd, Int.reduceMul, Int.reduceSub, Int.reduceNeg, Nat.reduceAdd, Nat.reduceMul, Nat.reduceSub, Nat.reduceEqDiff, Nat.reduceLT, Nat.reduceLeDiff, hp, hpar])
          | fail)
        all_goals first | rfl | omega | trace_state
      | none =>
        obtain ⟨v, cb⟩ := c64bad _ (by omega) (atoiM_none ha)
        repeat' (first
          | (with_reducible first | refine r_seq ?_ | refine r_block ?_ | refine fork_not ?_ | refine fork_and ?_ | refine fork_or ?_ | refine chk_ok (by kernel_rfl) ?_)
          | ((with_reducible first | refine fork_dec ?_ ?_ | refine fork_eq ?_ ?_ | refine fork_ne ?_ ?_ | refine fork_intro ?_ ?_) <;> intro h <;> try (exfalso; first | omega | exact h rfl | (revert h; decide) | (cases h; done)))
          | ((with_reducible show False); omega)
          | ((first | (with_reducible first | refine r_exit ?_ | refine r_skip ?_ | refine r_cond ?_ | refine r_region ?_ | show VX _ _ _ _ _ _ _ | show vstep _ _ _ _ _ | show vskip _ _ _ | show withV _ _) | ((with_reducible show endA _ _ _ _ _ _ _); simp -implicitDefEqProofs only [endA])); simp -dsimp -implicitDefEqProofs (maxSteps := 1000000) (disch := first | omega | (simp only [LN, hp, hpar]; omega)) only [go_sem, Int.reduceToNat, Int.reducePow, Nat.reducePow, Int.reduceAdd, Int.reduceMul, Int.reduceSub, Int.reduceNeg, Nat.reduceAdd, Nat.reduceMul, Nat.reduceSub, Nat.reduceEqDiff, Nat.reduceLT, Nat.reduceLeDiff, hp, hpar])
          | ((first | (with_reducible refine r_ret ?_) | (with_reducible refine pick_viewG default (by first | omega | (simp only [LN, hp, hpar]; omega)) (by first | omega | (simp only [LN, hp, hpar]; omega)) ?_) | (with_reducible refine pick_own default (by first | omega | (simp only [LN, hp, hpar]; omega)) ?_) | (with_reducible refine And.intro (by first | decide | omega | assumption | (simp only [LN, hp, hpar]; omega)) ?_) | ((with_reducible apply callK_pure); (first | exact c62w | exact c63 _ 118 | exact cb | fail)) | ((with_reducible apply callF_lend); (first | exact c62w | exact c63 _ 118 | exact cb | fail); rfl) | ((with_reducible apply callF_go); (first | exact c62w | exact c63 _ 118 | exact cb | fail)) | ((with_reducible show pickE _ _ _); first | refine pickE_intro _ ⟨by omega, by rfl⟩ ?_ | refine pickE_intro _ (by rfl) ?_) | fail); try simp -dsimp -implicitDefEqProofs (maxSteps := 1000000) (disch := first | omega | (simp only [LN, hp, hpar]; omega)) only [go_sem, Int.reduceToNat, Int.reducePow, Nat.reducePow, Int.reduceAdd, Int.reduceMul, Int.reduceSub, Int.reduceNeg, Nat.reduceAdd, Nat.reduceMul, Nat.reduceSub, Nat.reduceEqDiff, Nat.reduceLT, Nat.reduceLeDiff, hp, hpar])
          | fail)
        all_goals first | rfl | omega | trace_state
    | true =>
      cases ha : atoiM (Lib.trimPrefix (ws.getD 1 default) [118]) with
      | none =>
        obtain ⟨em, eb⟩ := hb (fun ⟨v, h, _⟩ => by rw [h.num] at ha; cases ha)
        subst em eb
        obtain ⟨v, cb⟩ := c64bad _ (by omega) (atoiM_none ha)
        repeat' (first
          | (with_reducible first | refine r_seq ?_ | refine r_block ?_ | refine fork_not ?_ | refine fork_and ?_ | refine fork_or ?_ | refine chk_ok (by kernel_rfl) ?_)
          | ((with_reducible first | refine fork_dec ?_ ?_ | refine fork_eq ?_ ?_ | refine fork_ne ?_ ?_ | refine fork_intro ?_ ?_) <;> intro h <;> try (exfalso; first | omega | exact h rfl | (revert h; decide) | (cases h; done)))
          | ((with_reducible show False); omega)
          | ((first | (with_reducible first | refine r_exit ?_ | refine r_skip ?_ | refine r_cond ?_ | refine r_region ?_ | show VX _ _ _ _ _ _ _ | show vstep _ _ _ _ _ | show vskip _ _ _ | show withV _ _) | ((with_reducible show endA _ _ _ _ _ _ _); simp -implicitDefEqProofs only [endA])); simp -dsimp -implicitDefEqProofs (maxSteps := 1000000) (disch := first | omega | (simp only [LN, hp, hpar]; omega)) only [go_sem, Int.reduceToNat, Int.reducePow, Nat.reducePow, Int.reduceAdd, Int.reduceMul, Int.reduceSub, Int.reduceNeg, Nat.reduceAdd, Nat.reduceMul, Nat.reduceSub, Nat.reduceEqDiff, Nat.reduceLT, Nat.reduceLeDiff, hp, hpar])
          | ((first | (with_reducible refine r_ret ?_) | (with_reducible refine pick_viewG default (by first | omega | (simp only [LN, hp, hpar]; omega)) (by first | omega | (simp only [LN, hp, hpar]; omega)) ?_) | (with_reducible refine pick_own default (by first | omega | (simp only [LN, hp, hpar]; omega)) ?_) | (with_reducible refine And.intro (by first | decide | omega | assumption | (simp only [LN, hp, hpar]; omega)) ?_) | ((with_reducible apply callK_pure); (first | exact c62w | exact c63 _ 118 | exact cb | fail)) | ((with_reducible apply callF_lend); (first | exact c62w | exact c63 _ 118 | exact cb | fail); rfl) | ((with_reducible apply callF_go); (first | exact c62w | exact c63 _ 118 | exact cb | fail)) | ((with_reducible show pickE _ _ _); first | refine pickE_intro _ ⟨by omega, by rfl⟩ ?_ | refine pickE_intro _ (by rfl) ?_) | fail); try simp -dsimp -implicitDefEqProofs (maxSteps := 1000000) (disch := first | omega | (simp only [LN, hp, hpar]; omega)) only [go_sem, Int.reduceToNat, Int.reducePow, Nat.reducePow, Int.reduceAdd, Int.reduceMul, Int.reduceSub, Int.reduceNeg, Nat.reduceAdd, Nat.reduceMul, Nat.reduceSub, Nat.reduceEqDiff, Nat.reduceLT, Nat.reduceLeDiff, hp, hpar])
          | fail)
        all_goals first | rfl | omega | trace_state
      | some v =>
        have hh : OkHead ws v := ⟨hlen, hp, ha⟩
        repeat' (first
          | (with_reducible first | refine r_seq ?_ | refine r_block ?_ | refine fork_not ?_ | refine fork_and ?_ | refine fork_or ?_ | refine chk_ok (by kernel_rfl) ?_)
          | ((with_reducible first | refine fork_dec ?_ ?_ | refine fork_eq ?_ ?_ | refine fork_ne ?_ ?_ | refine fork_intro ?_ ?_) <;> intro h <;> try (exfalso; first | omega | exact h rfl | (revert h; decide) | (cases h; done)))
          | ((with_reducible show False); omega)
          | ((first | (with_reducible first | refine r_exit ?_ | refine r_skip ?_ | refine r_cond ?_ | refine r_region ?_ | show VX _ _ _ _ _ _ _ | show vstep _ _ _ _ _ | show vskip _ _ _ | show withV _ _) | ((with_reducible show endA _ _ _ _ _ _ _); simp -implicitDefEqProofs only [endA])); simp -dsimp -implicitDefEqProofs (maxSteps := 1000000) (disch := first | omega | (simp only [LN, hp, hpar]; omega)) only [go_sem, Int.reduceToNat, Int.reducePow, Nat.reducePow, Int.reduceAdd, Int.reduceMul, Int.reduceSub, Int.reduceNeg, Nat.reduceAdd, Nat.reduceMul, Nat.reduceSub, Nat.reduceEqDiff, Nat.reduceLT, Nat.reduceLeDiff, hp, hpar])
          | ((first | (with_reducible refine r_ret ?_) | (with_reducible refine pick_viewG default (by first | omega | (simp only [LN, hp, hpar]; omega)) (by first | omega | (simp only [LN, hp, hpar]; omega)) ?_) | (with_reducible refine pick_own default (by first | omega | (simp only [LN, hp, hpar]; omega)) ?_) | (with_reducible refine And.intro (by first | decide | omega | assumption | (simp only [LN, hp, hpar]; omega)) ?_) | ((with_reducible apply callK_pure); (first | exact c62w | exact c63 _ 118 | exact c64ok _ (by omega) v (atoiM_some ha) | fail)) | ((with_reducible apply callF_lend); (first | exact c62w | exact c63 _ 118 | exact c64ok _ (by omega) v (atoiM_some ha) | fail); rfl) | ((with_reducible apply callF_go); (first | exact c62w | exact c63 _ 118 | exact c64ok _ (by omega) v (atoiM_some ha) | fail)) | ((with_reducible show pickE _ _ _); first | refine pickE_intro _ ⟨by omega, by rfl⟩ ?_ | refine pickE_intro _ (by rfl) ?_) | fail); try simp -dsimp -implicitDefEqProofs (maxSteps := 1000000) (disch := first | omega | (simp only [LN, hp, hpar]; omega)) only [go_sem, Int.reduceToNat, Int.reducePow, Nat.reducePow, Int.reduceAdd, Int.reduceMul, Int.reduceSub, Int.reduceNeg, Nat.reduceAdd, Nat.reduceMul, Nat.reduceSub, Nat.reduceEqDiff, Nat.reduceLT, Nat.reduceLeDiff, hp, hpar])
          | fail)
        all_goals try omega
        refine r_loopA (α := Nat) [2, 4, 7] (fun j b => [(9, .sl b 3 0 j), (10, aI (3 + 2 * (j : Int)))]) (fun j b => []) (fun j => [.arr 3 ((pfs ws j).map eF)]) (fun j => j ≤ wsN ws ∧ ∀ i, i < j → (pfB ws i).2 = true) (fun j => wsN ws - j) (0) ?h0_1 ?hs0_1 ?I_1 ?hI_1 ?round_1
        case hI_1 => intro x; (simp -dsimp -implicitDefEqProofs (maxSteps := 1000000) (disch := first | omega | (simp only [LN]; omega)) only [go_sem, Int.reduceToNat, Int.reducePow, Nat.reducePow, Int.reduceAdd, Int.reduceMul, Int.reduceSub, Int.reduceNeg, Nat.reduceAdd, Nat.reduceMul, Nat.reduceSub, Nat.reduceEqDiff, Nat.reduceLT, Nat.reduceLeDiff]) <;> exact rfl
        case hs0_1 => refine wk_auto ?_; (simp -dsimp -implicitDefEqProofs (maxSteps := 1000000) (disch := first | omega | (simp only [LN, pfs_0]; omega)) only [go_sem, Int.reduceToNat, Int.reducePow, Nat.reducePow, Int.reduceAdd, Int.reduceMul, Int.reduceSub, Int.reduceNeg, Nat.reduceAdd, Nat.reduceMul, Nat.reduceSub, Nat.reduceEqDiff, Nat.reduceLT, Nat.reduceLeDiff, pfs_0]) <;> (try omega)
        case h0_1 => exact ⟨Nat.zero_le _, fun i hi => absurd hi (by omega)⟩
        case round_1 =>
          intro j hj
          obtain ⟨hj1, hj2⟩ := hj
          have hn : wsN ws = (ws.length - 4) / 2 := rfl
          have hpl := pfs_len ws j
          by_cases hj3 : j < wsN ws
          · have ht1 : (3 + 2 * (j : Int)).toNat = 3 + 2 * j := by omega
            have ht2 : (3 + 2 * (j : Int) + 1).toNat = 4 + 2 * j := by omega
            have hjn : 3 + 2 * (j : Int) + 2 = 3 + 2 * ((j : Int) + 1) := by omega
            have cp := c65 (ws.getD (3 + 2 * j) default) (ws.getD (4 + 2 * j) default) (hwd _)
            have hps := pfs_s ws j
            have hpb : pfB ws j = pfM (ws.getD (3 + 2 * j) default) (ws.getD (4 + 2 * j) default) := rfl
            rw [← hpb] at cp
            cases ho : (pfB ws j).2 with
            | false =>
              obtain ⟨em, eb⟩ := hb (fun ⟨v, _, h⟩ => by rw [h j hj3] at ho; cases ho)
              subst em eb
              rw [ho] at cp
              repeat' (first
                | (with_reducible first | refine r_seq ?_ | refine r_block ?_ | refine fork_not ?_ | refine fork_and ?_ | refine fork_or ?_ | refine chk_ok (by kernel_rfl) ?_)
                | ((with_reducible first | refine fork_dec ?_ ?_ | refine fork_eq ?_ ?_ | refine fork_ne ?_ ?_ | refine fork_intro ?_ ?_) <;> intro h <;> try (exfalso; first | omega | exact h rfl | (revert h; decide) | (cases h; done)))
                | ((with_reducible show False); omega)
                | ((first | (with_reducible first | refine r_exit ?_ | refine r_skip ?_ | refine r_cond ?_ | refine r_region ?_ | show VX _ _ _ _ _ _ _ | show vstep _ _ _ _ _ | show vskip _ _ _ | show withV _ _) | ((with_reducible show endA _ _ _ _ _ _ _); simp -implicitDefEqProofs only [endA])); simp -dsimp -implicitDefEqProofs (maxSteps := 1000000) (disch := first | omega | (simp only [LN, ht1, ht2, hpl]; omega)) only [go_sem, Int.reduceToNat, Int.reducePow, Nat.reducePow, Int.reduceAdd, Int.reduceMul, Int.reduceSub, Int.reduceNeg, Nat.reduceAdd, Nat.reduceMul, Nat.reduceSub, Nat.reduceEqDiff, Nat.reduceLT, Nat.reduceLeDiff, ht1, ht2, hpl])
                | ((first | (with_reducible refine r_ret ?_) | (with_reducible refine pick_viewG default (by first | omega | (simp only [LN, ht1, ht2, hpl]; omega)) (by first | omega | (simp only [LN, ht1, ht2, hpl]; omega)) ?_) | (with_reducible refine pick_own default (by first | omega | (simp only [LN, ht1, ht2, hpl]; omega)) ?_) | (with_reducible refine And.intro (by first | decide | omega | assumption | (simp only [LN, ht1, ht2, hpl]; omega)) ?_) | ((with_reducible apply callK_pure); (exact cp)) | ((with_reducible apply callF_lend); (exact cp); rfl) | ((with_reducible apply callF_go); (exact cp)) | ((with_reducible show pickE _ _ _); first | refine pickE_intro _ ⟨by omega, by rfl⟩ ?_ | refine pickE_intro _ (by rfl) ?_) | fail); try simp -dsimp -implicitDefEqProofs (maxSteps := 1000000) (disch := first | omega | (simp only [LN, ht1, ht2, hpl]; omega)) only [go_sem, Int.reduceToNat, Int.reducePow, Nat.reducePow, Int.reduceAdd, Int.reduceMul, Int.reduceSub, Int.reduceNeg, Nat.reduceAdd, Nat.reduceMul, Nat.reduceSub, Nat.reduceEqDiff, Nat.reduceLT, Nat.reduceLeDiff, ht1, ht2, hpl])
                | fail)
              all_goals first | rfl | omega | trace_state
            | true =>
              rw [ho] at cp
              repeat' (first
                | (with_reducible first | refine r_seq ?_ | refine r_block ?_ | refine fork_not ?_ | refine fork_and ?_ | refine fork_or ?_ | refine chk_ok (by kernel_rfl) ?_)
                | ((with_reducible first | refine fork_dec ?_ ?_ | refine fork_eq ?_ ?_ | refine fork_ne ?_ ?_ | refine fork_intro ?_ ?_) <;> intro h <;> try (exfalso; first | omega | exact h rfl | (revert h; decide) | (cases h; done)))
                | ((with_reducible show False); omega)
                | ((first | (with_reducible first | refine r_exit ?_ | refine r_skip ?_ | refine r_cond ?_ | refine r_region ?_ | show VX _ _ _ _ _ _ _ | show vstep _ _ _ _ _ | show vskip _ _ _ | show withV _ _) | ((with_reducible show endA _ _ _ _ _ _ _); simp -implicitDefEqProofs only [endA])); simp -dsimp -implicitDefEqProofs (maxSteps := 1000000) (disch := first | omega | (simp only [LN, ht1, ht2, hpl]; omega)) only [go_sem, Int.reduceToNat, Int.reducePow, Nat.reducePow, Int.reduceAdd, Int.reduceMul, Int.reduceSub, Int.reduceNeg, Nat.reduceAdd, Nat.reduceMul, Nat.reduceSub, Nat.reduceEqDiff, Nat.reduceLT, Nat.reduceLeDiff, ht1, ht2, hpl])
                | ((first | (with_reducible refine r_ret ?_) | (with_reducible refine pick_viewG default (by first | omega | (simp only [LN, ht1, ht2, hpl]; omega)) (by first | omega | (simp only [LN, ht1, ht2, hpl]; omega)) ?_) | (with_reducible refine pick_own default (by first | omega | (simp only [LN, ht1, ht2, hpl]; omega)) ?_) | (with_reducible refine And.intro (by first | decide | omega | assumption | (simp only [LN, ht1, ht2, hpl]; omega)) ?_) | ((with_reducible apply callK_pure); (exact cp)) | ((with_reducible apply callF_lend); (exact cp); rfl) | ((with_reducible apply callF_go); (exact cp)) | ((with_reducible show pickE _ _ _); first | refine pickE_intro _ ⟨by omega, by rfl⟩ ?_ | refine pickE_intro _ (by rfl) ?_) | fail); try simp -dsimp -implicitDefEqProofs (maxSteps := 1000000) (disch := first | omega | (simp only [LN, ht1, ht2, hpl]; omega)) only [go_sem, Int.reduceToNat, Int.reducePow, Nat.reducePow, Int.reduceAdd, Int.reduceMul, Int.reduceSub, Int.reduceNeg, Nat.reduceAdd, Nat.reduceMul, Nat.reduceSub, Nat.reduceEqDiff, Nat.reduceLT, Nat.reduceLeDiff, ht1, ht2, hpl])
                | fail)
              all_goals first | omega | (refine loopQ_next (j + 1) ?_ ?_ ?_; (exact ⟨by omega, lt_ext hj2 ho⟩); (show _ < _; omega); (simp -dsimp -implicitDefEqProofs (maxSteps := 1000000) (disch := first | omega | (simp only [LN, hps, hjn, List.map_append, List.map_cons, List.map_nil, hpl, List.length_append, List.length_singleton]; omega)) only [go_sem, Int.reduceToNat, Int.reducePow, Nat.reducePow, Int.reduceAdd, Int.reduceMul, Int.reduceSub, Int.reduceNeg, Nat.reduceAdd, Nat.reduceMul, Nat.reduceSub, Nat.reduceEqDiff, Nat.reduceLT, Nat.reduceLeDiff, hps, hjn, List.map_append, List.map_cons, List.map_nil, hpl, List.length_append, List.length_singleton]; try trivial)) | trace_state
          · obtain rfl : j = wsN ws := by omega
            obtain ⟨em, eb⟩ := hg v hh hj2
            subst em eb
            repeat' (first
              | (with_reducible first | refine r_seq ?_ | refine r_block ?_ | refine fork_not ?_ | refine fork_and ?_ | refine fork_or ?_ | refine chk_ok (by kernel_rfl) ?_)
              | ((with_reducible first | refine fork_dec ?_ ?_ | refine fork_eq ?_ ?_ | refine fork_ne ?_ ?_ | refine fork_intro ?_ ?_) <;> intro h <;> try (exfalso; first | omega | exact h rfl | (revert h; decide) | (cases h; done)))
              | ((with_reducible show False); omega)
              | ((first | (with_reducible first | refine r_exit ?_ | refine r_skip ?_ | refine r_cond ?_ | refine r_region ?_ | show VX _ _ _ _ _ _ _ | show vstep _ _ _ _ _ | show vskip _ _ _ | show withV _ _) | ((with_reducible show endA _ _ _ _ _ _ _); simp -implicitDefEqProofs only [endA])); simp -dsimp -implicitDefEqProofs (maxSteps := 1000000) (disch := first | omega | (simp only [LN, hpl]; omega)) only [go_sem, Int.reduceToNat, Int.reducePow, Nat.reducePow, Int.reduceAdd, Int.reduceMul, Int.reduceSub, Int.reduceNeg, Nat.reduceAdd, Nat.reduceMul, Nat.reduceSub, Nat.reduceEqDiff, Nat.reduceLT, Nat.reduceLeDiff, hpl])
              | ((first | (with_reducible refine r_ret ?_) | (with_reducible refine pick_viewG default (by first | omega | (simp only [LN, hpl]; omega)) (by first | omega | (simp only [LN, hpl]; omega)) ?_) | (with_reducible refine pick_own default (by first | omega | (simp only [LN, hpl]; omega)) ?_) | (with_reducible refine And.intro (by first | decide | omega | assumption | (simp only [LN, hpl]; omega)) ?_) | ((with_reducible apply callK_pure); (exact c14p ws v hl2)) | ((with_reducible apply callF_lend); (exact c14p ws v hl2); rfl) | ((with_reducible apply callF_go); (exact c14p ws v hl2)) | ((with_reducible show pickE _ _ _); first | refine pickE_intro _ ⟨by omega, by rfl⟩ ?_ | refine pickE_intro _ (by rfl) ?_) | fail); try simp -dsimp -implicitDefEqProofs (maxSteps := 1000000) (disch := first | omega | (simp only [LN, hpl]; omega)) only [go_sem, Int.reduceToNat, Int.reducePow, Nat.reducePow, Int.reduceAdd, Int.reduceMul, Int.reduceSub, Int.reduceNeg, Nat.reduceAdd, Nat.reduceMul, Nat.reduceSub, Nat.reduceEqDiff, Nat.reduceLT, Nat.reduceLeDiff, hpl])
              | fail)
            all_goals first | rfl | omega | trace_state
  · obtain ⟨em, eb⟩ := hb (fun ⟨v, h, _⟩ => hlen h.len)
    subst em eb
    by_cases h6 : ws.length < 6
    · repeat' (first
        | (with_reducible first | refine r_seq ?_ | refine r_block ?_ | refine fork_not ?_ | refine fork_and ?_ | refine fork_or ?_ | refine chk_ok (by kernel_rfl) ?_)
        | ((with_reducible first | refine fork_dec ?_ ?_ | refine fork_eq ?_ ?_ | refine fork_ne ?_ ?_ | refine fork_intro ?_ ?_) <;> intro h <;> try (exfalso; first | omega | exact h rfl | (revert h; decide) | (cases h; done)))
        | ((with_reducible show False); omega)
        | ((first | (with_reducible first | refine r_exit ?_ | refine r_skip ?_ | refine r_cond ?_ | refine r_region ?_ | show VX _ _ _ _ _ _ _ | show vstep _ _ _ _ _ | show vskip _ _ _ | show withV _ _) | ((with_reducible show endA _ _ _ _ _ _ _); simp -implicitDefEqProofs only [endA])); simp -dsimp -implicitDefEqProofs (maxSteps := 1000000) (disch := first | omega | (simp only [LN]; omega)) only [go_sem, Int.reduceToNat, Int.reducePow, Nat.reducePow, Int.reduceAdd, Int.reduceMul, Int.reduceSub, Int.reduceNeg, Nat.reduceAdd, Nat.reduceMul, Nat.reduceSub, Nat.reduceEqDiff, Nat.reduceLT, Nat.reduceLeDiff])
        | ((first | (with_reducible refine r_ret ?_) | (with_reducible refine pick_viewG default (by first | omega | (simp only [LN]; omega)) (by first | omega | (simp only [LN]; omega)) ?_) | (with_reducible refine pick_own default (by first | omega | (simp only [LN]; omega)) ?_) | (with_reducible refine And.intro (by first | decide | omega | assumption | (simp only [LN]; omega)) ?_) | ((with_reducible apply callK_pure); (exact c62w)) | ((with_reducible apply callF_lend); (exact c62w); rfl) | ((with_reducible apply callF_go); (exact c62w)) | ((with_reducible show pickE _ _ _); first | refine pickE_intro _ ⟨by omega, by rfl⟩ ?_ | refine pickE_intro _ (by rfl) ?_) | fail); try simp -dsimp -implicitDefEqProofs (maxSteps := 1000000) (disch := first | omega | (simp only [LN]; omega)) only [go_sem, Int.reduceToNat, Int.reducePow, Nat.reducePow, Int.reduceAdd, Int.reduceMul, Int.reduceSub, Int.reduceNeg, Nat.reduceAdd, Nat.reduceMul, Nat.reduceSub, Nat.reduceEqDiff, Nat.reduceLT, Nat.reduceLeDiff])
        | fail)
      all_goals first | rfl | omega | trace_state
    · have hpar : (ws.length : Int).tmod 2 = 1 := by rw [tmod_nn (by omega)]; omega
      repeat' (first
        | (with_reducible first | refine r_seq ?_ | refine r_block ?_ | refine fork_not ?_ | refine fork_and ?_ | refine fork_or ?_ | refine chk_ok (by kernel_rfl) ?_)
        | ((with_reducible first | refine fork_dec ?_ ?_ | refine fork_eq ?_ ?_ | refine fork_ne ?_ ?_ | refine fork_intro ?_ ?_) <;> intro h <;> try (exfalso; first | omega | exact h rfl | (revert h; decide) | (cases h; done)))
        | ((with_reducible show False); omega)
        | ((first | (with_reducible first | refine r_exit ?_ | refine r_skip ?_ | refine r_cond ?_ | refine r_region ?_ | show VX _ _ _ _ _ _ _ | show vstep _ _ _ _ _ | show vskip _ _ _ | show withV _ _) | ((with_reducible show endA _ _ _ _ _ _ _); simp -implicitDefEqProofs only [endA])); simp -dsimp -implicitDefEqProofs (maxSteps := 1000000) (disch := first | omega | (simp only [LN, hpar]; omega)) only [go_sem, Int.reduceToNat, Int.reducePow, Nat.reducePow, Int.reduceAdd, Int.reduceMul, Int.reduceSub, Int.reduceNeg, Nat.reduceAdd, Nat.reduceMul, Nat.reduceSub, Nat.reduceEqDiff, Nat.reduceLT, Nat.reduceLeDiff, hpar])
        | ((first | (with_reducible refine r_ret ?_) | (with_reducible refine pick_viewG default (by first | omega | (simp only [LN, hpar]; omega)) (by first | omega | (simp only [LN, hpar]; omega)) ?_) | (with_reducible refine pick_own default (by first | omega | (simp only [LN, hpar]; omega)) ?_) | (with_reducible refine And.intro (by first | decide | omega | assumption | (simp only [LN, hpar]; omega)) ?_) | ((with_reducible apply callK_pure); (exact c62w)) | ((with_reducible apply callF_lend); (exact c62w); rfl) | ((with_reducible apply callF_go); (exact c62w)) | ((with_reducible show pickE _ _ _); first | refine pickE_intro _ ⟨by omega, by rfl⟩ ?_ | refine pickE_intro _ (by rfl) ?_) | fail); try simp -dsimp -implicitDefEqProofs (maxSteps := 1000000) (disch := first | omega | (simp only [LN, hpar]; omega)) only [go_sem, Int.reduceToNat, Int.reducePow, Nat.reducePow, Int.reduceAdd, Int.reduceMul, Int.reduceSub, Int.reduceNeg, Nat.reduceAdd, Nat.reduceMul, Nat.reduceSub, Nat.reduceEqDiff, Nat.reduceLT, Nat.reduceLeDiff, hpar])
        | fail)
      all_goals first | rfl | omega | trace_state
end Go.Proofs.YtlkffmmgcoiniaaDoor
