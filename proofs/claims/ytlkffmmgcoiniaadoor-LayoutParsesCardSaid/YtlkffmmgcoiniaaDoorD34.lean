/- Contracts of functions of this program, and the plain facts that they rest on. No conditions. -/
import Derived.Test.YtlkffmmgcoiniaaDoorD33
set_option linter.unusedSimpArgs false
set_option linter.unusedVariables false
namespace Go.Proofs.YtlkffmmgcoiniaaDoor
open Go Go.Ab
attribute [local irreducible] callK callF loopQ vstep vskip pickE hideP
open Go.RowKit
set_option maxRecDepth 100000
attribute [local go_sem] eF rF eS eP eX rX eQ eL
def La0 : La := ⟨[], 0, [], 0⟩
theorem La0_e : eL La0 = .agg [.v (.string (bs [])), .v (.int .i64 0), .view 6 [], .v (.int .i64 0)] := rfl
attribute [local go_sem] La0
set_option maxRecDepth 100000 in
set_option maxHeartbeats 4000000 in
theorem c33z  : PCalls Tryd.prog 33 [.v (.string (bs []))] (.tup [eL La0, .v (.int .i64 0)]) := by
  refine pcalls_of (E := E) (fn := Tryd.f33) 24 [.cell 2 29, .tmp 3] rfl rfl rfl rfl (by decide) rfl ?_
  repeat' (first
    | (with_reducible first | refine r_seq ?_ | refine r_block ?_ | refine fork_not ?_ | refine fork_and ?_ | refine fork_or ?_ | refine chk_ok (by kernel_rfl) ?_)
    | ((with_reducible first | refine fork_dec ?_ ?_ | refine fork_eq ?_ ?_ | refine fork_ne ?_ ?_ | refine fork_intro ?_ ?_) <;> intro h <;> try (exfalso; first | omega | exact h rfl | (revert h; decide) | (cases h; done)))
    | ((with_reducible show False); omega)
    | ((first | (with_reducible first | refine r_exit ?_ | refine r_skip ?_ | refine r_cond ?_ | refine r_region ?_ | show VX _ _ _ _ _ _ _ | show vstep _ _ _ _ _ | show vskip _ _ _ | show withV _ _) | ((with_reducible show endA _ _ _ _ _ _ _); simp -implicitDefEqProofs only [endA])); simp -dsimp -implicitDefEqProofs (maxSteps := 1000000) (disch := first | omega | (simp only [LN]; omega)) only [go_sem, Int.reduceToNat, Int.reducePow, Nat.reducePow, Int.reduceAdd, Int.reduceMul, Int.reduceSub, Int.reduceNeg, Nat.reduceAdd, Nat.reduceMul, Nat.reduceSub, Nat.reduceEqDiff, Nat.reduceLT, Nat.reduceLeDiff])
    | ((first | (with_reducible refine r_ret ?_) | (with_reducible refine pick_viewG default (by first | omega | (simp only [LN]; omega)) (by first | omega | (simp only [LN]; omega)) ?_) | (with_reducible refine pick_own default (by first | omega | (simp only [LN]; omega)) ?_) | (with_reducible refine And.intro (by first | decide | omega | assumption | (simp only [LN]; omega)) ?_) | ((with_reducible show pickE _ _ _); first | refine pickE_intro _ ⟨by omega, by rfl⟩ ?_ | refine pickE_intro _ (by rfl) ?_) | fail); try simp -dsimp -implicitDefEqProofs (maxSteps := 1000000) (disch := first | omega | (simp only [LN]; omega)) only [go_sem, Int.reduceToNat, Int.reducePow, Nat.reducePow, Int.reduceAdd, Int.reduceMul, Int.reduceSub, Int.reduceNeg, Nat.reduceAdd, Nat.reduceMul, Nat.reduceSub, Nat.reduceEqDiff, Nat.reduceLT, Nat.reduceLeDiff])
    | fail)
  all_goals first | rfl | omega | trace_state
set_option maxRecDepth 100000 in
set_option maxHeartbeats 4000000 in
theorem c33f (s : List UInt8) (hne : ¬ s = []) (cp : PCalls Tryd.prog 54 [.v (.string (bs s))] (.tup [eL La0, .v (.bool false)])) : PCalls Tryd.prog 33 [.v (.string (bs s))] (.tup [eL La0, .v (.int .i64 11)]) := by
  refine pcalls_of (E := E) (fn := Tryd.f33) 24 [.cell 2 29, .tmp 3] rfl rfl rfl rfl (by decide) rfl ?_
  repeat' (first
    | (with_reducible first | refine r_seq ?_ | refine r_block ?_ | refine fork_not ?_ | refine fork_and ?_ | refine fork_or ?_ | refine chk_ok (by kernel_rfl) ?_)
    | ((with_reducible first | refine fork_dec ?_ ?_ | refine fork_eq ?_ ?_ | refine fork_ne ?_ ?_ | refine fork_intro ?_ ?_) <;> intro h <;> try (exfalso; first | omega | exact h rfl | (revert h; decide) | (cases h; done)))
    | ((with_reducible show False); omega)
    | ((first | (with_reducible first | refine r_exit ?_ | refine r_skip ?_ | refine r_cond ?_ | refine r_region ?_ | show VX _ _ _ _ _ _ _ | show vstep _ _ _ _ _ | show vskip _ _ _ | show withV _ _) | ((with_reducible show endA _ _ _ _ _ _ _); simp -implicitDefEqProofs only [endA])); simp -dsimp -implicitDefEqProofs (maxSteps := 1000000) (disch := first | omega | (simp only [LN, hne]; omega)) only [go_sem, Int.reduceToNat, Int.reducePow, Nat.reducePow, Int.reduceAdd, Int.reduceMul, Int.reduceSub, Int.reduceNeg, Nat.reduceAdd, Nat.reduceMul, Nat.reduceSub, Nat.reduceEqDiff, Nat.reduceLT, Nat.reduceLeDiff, hne])
    | ((first | (with_reducible refine r_ret ?_) | (with_reducible refine pick_viewG default (by first | omega | (simp only [LN, hne]; omega)) (by first | omega | (simp only [LN, hne]; omega)) ?_) | (with_reducible refine pick_own default (by first | omega | (simp only [LN, hne]; omega)) ?_) | (with_reducible refine And.intro (by first | decide | omega | assumption | (simp only [LN, hne]; omega)) ?_) | ((with_reducible apply callK_pure); (exact cp)) | ((with_reducible apply callF_lend); (exact cp); rfl) | ((with_reducible apply callF_go); (exact cp)) | ((with_reducible show pickE _ _ _); first | refine pickE_intro _ ⟨by omega, by rfl⟩ ?_ | refine pickE_intro _ (by rfl) ?_) | fail); try simp -dsimp -implicitDefEqProofs (maxSteps := 1000000) (disch := first | omega | (simp only [LN, hne]; omega)) only [go_sem, Int.reduceToNat, Int.reducePow, Nat.reducePow, Int.reduceAdd, Int.reduceMul, Int.reduceSub, Int.reduceNeg, Nat.reduceAdd, Nat.reduceMul, Nat.reduceSub, Nat.reduceEqDiff, Nat.reduceLT, Nat.reduceLeDiff, hne])
    | fail)
  all_goals first | rfl | omega | trace_state
set_option maxRecDepth 100000 in
set_option maxHeartbeats 4000000 in
theorem c33g (s : List UInt8) (hne : ¬ s = []) (m : La) (cp : PCalls Tryd.prog 54 [.v (.string (bs s))] (.tup [eL m, .v (.bool true)])) (ct : PCalls Tryd.prog 32 [eL m] (.v (.string (bs s)))) : PCalls Tryd.prog 33 [.v (.string (bs s))] (.tup [eL m, .v (.int .i64 0)]) := by
  refine pcalls_of (E := E) (fn := Tryd.f33) 24 [.cell 2 29, .tmp 3] rfl rfl rfl rfl (by decide) rfl ?_
  repeat' (first
    | (with_reducible first | refine r_seq ?_ | refine r_block ?_ | refine fork_not ?_ | refine fork_and ?_ | refine fork_or ?_ | refine chk_ok (by kernel_rfl) ?_)
    | ((with_reducible first | refine fork_dec ?_ ?_ | refine fork_eq ?_ ?_ | refine fork_ne ?_ ?_ | refine fork_intro ?_ ?_) <;> intro h <;> try (exfalso; first | omega | exact h rfl | (revert h; decide) | (cases h; done)))
    | ((with_reducible show False); omega)
    | ((first | (with_reducible first | refine r_exit ?_ | refine r_skip ?_ | refine r_cond ?_ | refine r_region ?_ | show VX _ _ _ _ _ _ _ | show vstep _ _ _ _ _ | show vskip _ _ _ | show withV _ _) | ((with_reducible show endA _ _ _ _ _ _ _); simp -implicitDefEqProofs only [endA])); simp -dsimp -implicitDefEqProofs (maxSteps := 1000000) (disch := first | omega | (simp only [LN, hne]; omega)) only [go_sem, Int.reduceToNat, Int.reducePow, Nat.reducePow, Int.reduceAdd, Int.reduceMul, Int.reduceSub, Int.reduceNeg, Nat.reduceAdd, Nat.reduceMul, Nat.reduceSub, Nat.reduceEqDiff, Nat.reduceLT, Nat.reduceLeDiff, hne])
    | ((first | (with_reducible refine r_ret ?_) | (with_reducible refine pick_viewG default (by first | omega | (simp only [LN, hne]; omega)) (by first | omega | (simp only [LN, hne]; omega)) ?_) | (with_reducible refine pick_own default (by first | omega | (simp only [LN, hne]; omega)) ?_) | (with_reducible refine And.intro (by first | decide | omega | assumption | (simp only [LN, hne]; omega)) ?_) | ((with_reducible apply callK_pure); (first | exact cp | exact ct | fail)) | ((with_reducible apply callF_lend); (first | exact cp | exact ct | fail); rfl) | ((with_reducible apply callF_go); (first | exact cp | exact ct | fail)) | ((with_reducible show pickE _ _ _); first | refine pickE_intro _ ⟨by omega, by rfl⟩ ?_ | refine pickE_intro _ (by rfl) ?_) | fail); try simp -dsimp -implicitDefEqProofs (maxSteps := 1000000) (disch := first | omega | (simp only [LN, hne]; omega)) only [go_sem, Int.reduceToNat, Int.reducePow, Nat.reducePow, Int.reduceAdd, Int.reduceMul, Int.reduceSub, Int.reduceNeg, Nat.reduceAdd, Nat.reduceMul, Nat.reduceSub, Nat.reduceEqDiff, Nat.reduceLT, Nat.reduceLeDiff, hne])
    | fail)
  all_goals first | rfl | omega | trace_state
set_option maxRecDepth 100000 in
set_option maxHeartbeats 4000000 in
theorem c33h (s : List UInt8) (hne : ¬ s = []) (m : La) (cp : PCalls Tryd.prog 54 [.v (.string (bs s))] (.tup [eL m, .v (.bool true)])) (t : List UInt8) (ht : ¬ t = s) (ct : PCalls Tryd.prog 32 [eL m] (.v (.string (bs t)))) : PCalls Tryd.prog 33 [.v (.string (bs s))] (.tup [eL La0, .v (.int .i64 11)]) := by
  refine pcalls_of (E := E) (fn := Tryd.f33) 24 [.cell 2 29, .tmp 3] rfl rfl rfl rfl (by decide) rfl ?_
  repeat' (first
    | (with_reducible first | refine r_seq ?_ | refine r_block ?_ | refine fork_not ?_ | refine fork_and ?_ | refine fork_or ?_ | refine chk_ok (by kernel_rfl) ?_)
    | ((with_reducible first | refine fork_dec ?_ ?_ | refine fork_eq ?_ ?_ | refine fork_ne ?_ ?_ | refine fork_intro ?_ ?_) <;> intro h <;> try (exfalso; first | omega | exact h rfl | (revert h; decide) | (cases h; done)))
    | ((with_reducible show False); omega)
    | ((first | (with_reducible first | refine r_exit ?_ | refine r_skip ?_ | refine r_cond ?_ | refine r_region ?_ | show VX _ _ _ _ _ _ _ | show vstep _ _ _ _ _ | show vskip _ _ _ | show withV _ _) | ((with_reducible show endA _ _ _ _ _ _ _); simp -implicitDefEqProofs only [endA])); simp -dsimp -implicitDefEqProofs (maxSteps := 1000000) (disch := first | omega | (simp only [LN, hne, ht]; omega)) only [go_sem, Int.reduceToNat, Int.reducePow, Nat.reducePow, Int.reduceAdd, Int.reduceMul, Int.reduceSub, Int.reduceNeg, Nat.reduceAdd, Nat.reduceMul, Nat.reduceSub, Nat.reduceEqDiff, Nat.reduceLT, Nat.reduceLeDiff, hne, ht])
    | ((first | (with_reducible refine r_ret ?_) | (with_reducible refine pick_viewG default (by first | omega | (simp only [LN, hne, ht]; omega)) (by first | omega | (simp only [LN, hne, ht]; omega)) ?_) | (with_reducible refine pick_own default (by first | omega | (simp only [LN, hne, ht]; omega)) ?_) | (with_reducible refine And.intro (by first | decide | omega | assumption | (simp only [LN, hne, ht]; omega)) ?_) | ((with_reducible apply callK_pure); (first | exact cp | exact ct | fail)) | ((with_reducible apply callF_lend); (first | exact cp | exact ct | fail); rfl) | ((with_reducible apply callF_go); (first | exact cp | exact ct | fail)) | ((with_reducible show pickE _ _ _); first | refine pickE_intro _ ⟨by omega, by rfl⟩ ?_ | refine pickE_intro _ (by rfl) ?_) | fail); try simp -dsimp -implicitDefEqProofs (maxSteps := 1000000) (disch := first | omega | (simp only [LN, hne, ht]; omega)) only [go_sem, Int.reduceToNat, Int.reducePow, Nat.reducePow, Int.reduceAdd, Int.reduceMul, Int.reduceSub, Int.reduceNeg, Nat.reduceAdd, Nat.reduceMul, Nat.reduceSub, Nat.reduceEqDiff, Nat.reduceLT, Nat.reduceLeDiff, hne, ht])
    | fail)
  all_goals first | rfl | omega | trace_state
theorem c33any (s : List UInt8) (hl : s.length ≤ 100000) : ∃ (m : La) (e : Int), PCalls Tryd.prog 33 [.v (.string (bs s))] (.tup [eL m, .v (.int .i64 e)]) ∧ (e = 0 ∧ PCalls Tryd.prog 32 [eL m] (.v (.string (bs s))) ∨ e = 11 ∧ m = La0) := by
  by_cases hne : s = []
  · subst hne
    exact ⟨La0, 0, c33z, .inl ⟨rfl, c32z La0 rfl⟩⟩
  · obtain ⟨h1, h2, h3, h4⟩ := spl_ok 32 s
    have hj : (joinL 32 (spl 32 s)).length ≤ 1000000 := by rw [h2]; omega
    by_cases ho : ∃ v, OkHead (spl 32 s) v ∧ ∀ i, i < wsN (spl 32 s) → (pfB (spl 32 s) i).2 = true
    · obtain ⟨v, hv, ho⟩ := ho
      have cp := c54 (spl 32 s) h1 h3 hj (by omega) (layM (parX (spl 32 s) v)) (newE (parX (spl 32 s) v) == 0) (fun v' hv' _ => by
        have := hv.num.symm.trans hv'.num
        rw [Option.some.inj this]; exact ⟨rfl, rfl⟩) (fun hb => absurd ⟨v, hv, ho⟩ hb)
      rw [h2] at cp
      by_cases he : newE (parX (spl 32 s) v) = 0
      · have G := good_of he
        rw [he, G.lay] at cp
        have hfl : (parX (spl 32 s) v).fs.length ≤ 100000 := by
          show (pfs (spl 32 s) (wsN (spl 32 s))).length ≤ _
          rw [pfs_len]; unfold wsN; omega
        have ct := c32G G hfl
        by_cases ht : textX (parX (spl 32 s) v) = s
        · rw [ht] at ct
          exact ⟨_, 0, c33g s hne _ cp ct, .inl ⟨rfl, ct⟩⟩
        · exact ⟨La0, 11, c33h s hne _ cp _ ht ct, .inr ⟨rfl, rfl⟩⟩
      · rw [lay_bad he, show (newE (parX (spl 32 s) v) == 0) = false from beq_false_of_ne he] at cp
        exact ⟨La0, 11, c33f s hne cp, .inr ⟨rfl, rfl⟩⟩
    · have cp := c54 (spl 32 s) h1 h3 hj (by omega) La0 false (fun v hv hi => absurd ⟨v, hv, hi⟩ ho) (fun _ => ⟨rfl, rfl⟩)
      rw [h2] at cp
      exact ⟨La0, 11, c33f s hne cp, .inr ⟨rfl, rfl⟩⟩
/-! The words of a layout's text. -/
theorem join_app (x : UInt8) : ∀ (ws : List (List UInt8)) (w : List UInt8), ws ≠ [] → joinL x (ws ++ [w]) = joinL x ws ++ x :: w
  | [], _, h => absurd rfl h
  | [v], w, _ => rfl
  | v :: u :: ws, w, _ => by
    have ih := join_app x (u :: ws) w (by simp)
    show v ++ x :: joinL x ((u :: ws) ++ [w]) = v ++ x :: joinL x (u :: ws) ++ x :: w
    rw [ih]; simp
def typW (f : F) : List UInt8 := typeL f.ty ++ countL f.cnt ++ [59]
def fldW (fs : List F) : Nat → List (List UInt8)
  | 0 => []
  | i + 1 => fldW fs i ++ [(fs.getD i default).nm] ++ [typW (fs.getD i default)]
def headW (x : X) : List (List UInt8) := [x.nm, 118 :: numL x.ver, [123]]
def wsX (x : X) : List (List UInt8) := headW x ++ fldW x.fs x.fs.length ++ [[125]]
theorem fldW_len (fs : List F) : ∀ n, (fldW fs n).length = 2 * n
  | 0 => rfl
  | n + 1 => by simp only [fldW, List.length_append, fldW_len fs n, List.length_singleton]; omega
theorem join_fld (x : X) : ∀ i, joinL 32 (headW x ++ fldW x.fs i) = headL x.nm x.ver ++ fT x.fs i
  | 0 => by
    rw [fldW, List.append_nil, fT, List.append_nil, headL_e]
    show x.nm ++ 32 :: ((118 :: numL x.ver) ++ 32 :: [123]) = _
    simp
  | i + 1 => by
    have hne : headW x ++ fldW x.fs i ≠ [] := by simp [headW]
    rw [fldW, ← List.append_assoc, ← List.append_assoc, join_app _ _ _ (by simp [headW]), join_app _ _ _ hne, join_fld x i, fT_s]
    unfold typW fieldL
    simp
theorem join_wsX (x : X) : joinL 32 (wsX x) = textX x := by
  unfold wsX
  rw [join_app _ _ _ (by simp [headW]), join_fld]
  unfold textX
  simp
theorem fldW_at (fs : List F) : ∀ {n i : Nat}, i < n → (fldW fs n).getD (2 * i) default = (fs.getD i default).nm ∧ (fldW fs n).getD (2 * i + 1) default = typW (fs.getD i default)
  | 0, _, h => absurd h (by omega)
  | n + 1, i, h => by
    have hl := fldW_len fs n
    rw [fldW, List.append_assoc]
    rcases Nat.lt_or_ge i n with h1 | h1
    · have := fldW_at fs h1
      rw [List.getD_eq_getElem?_getD, List.getElem?_append_left (by omega), ← List.getD_eq_getElem?_getD, List.getD_eq_getElem?_getD (l := fldW fs n ++ _), List.getElem?_append_left (by omega), ← List.getD_eq_getElem?_getD]
      exact this
    · obtain rfl : i = n := by omega
      rw [show [(fs.getD i default).nm] ++ [typW (fs.getD i default)] = [(fs.getD i default).nm, typW (fs.getD i default)] from rfl]
      constructor
      · rw [List.getD_eq_getElem?_getD, List.getElem?_append_right (by omega), hl, Nat.sub_self]; rfl
      · rw [List.getD_eq_getElem?_getD, List.getElem?_append_right (by omega), hl, Nat.add_sub_cancel_left]; rfl
theorem wsX_len (x : X) : (wsX x).length = 2 * x.fs.length + 4 := by simp only [wsX, headW, List.length_append, fldW_len, List.length_cons, List.length_nil]; omega
theorem wsX_N (x : X) : wsN (wsX x) = x.fs.length := by unfold wsN; rw [wsX_len]; omega
theorem wsX_at (x : X) {i : Nat} (h : i < x.fs.length) : (wsX x).getD (3 + 2 * i) default = (x.fs.getD i default).nm ∧ (wsX x).getD (4 + 2 * i) default = typW (x.fs.getD i default) := by
  have hl := fldW_len x.fs x.fs.length
  obtain ⟨h1, h2⟩ := fldW_at x.fs h
  have hh : (headW x).length = 3 := rfl
  have key : ∀ k, k < 2 * x.fs.length → (wsX x).getD (3 + k) default = (fldW x.fs x.fs.length).getD k default := fun k hk => by
    unfold wsX
    rw [List.getD_eq_getElem?_getD, List.getElem?_append_left (by rw [List.length_append]; omega), List.getElem?_append_right (by omega), hh, Nat.add_sub_cancel_left, ← List.getD_eq_getElem?_getD]
  rw [key _ (by omega), show 4 + 2 * i = 3 + (2 * i + 1) by omega, key _ (by omega)]
  exact ⟨h1, h2⟩
theorem tyTo_is {t : Int} (h : 1 ≤ t ∧ t ≤ 7) : tyTo (typeL t) 7 = t := by
  rcases tyc7 h with rfl | rfl | rfl | rfl | rfl | rfl | rfl <;> decide
theorem typ_no {t : Int} (h : 1 ≤ t ∧ t ≤ 7) : (91 : UInt8) ∉ typeL t ∧ (32 : UInt8) ∉ typeL t := by
  rcases tyc7 h with rfl | rfl | rfl | rfl | rfl | rfl | rfl <;> decide
theorem suf_app (l : List UInt8) (x : UInt8) : sufB (l ++ [x]) x = true ∧ sufT (l ++ [x]) x = l := by
  have h : Lib.hasSuffix (l ++ [x]) [x] = true := by unfold Lib.hasSuffix; rw [List.isSuffixOf_iff_suffix]; exact ⟨l, rfl⟩
  refine ⟨h, ?_⟩
  unfold sufT Lib.trimSuffix
  rw [if_pos h]; simp
theorem num_no {n : Int} (h : -9223372036854775808 ≤ n ∧ n ≤ 9223372036854775807) (hn : 0 ≤ n) {x : UInt8} (hx : ¬ (48 ≤ x.toNat ∧ x.toNat ≤ 57)) : x ∉ numL n := by
  rw [numL_pos hn]
  intro hm
  exact hx (dec_digit _ x hm)
theorem pf_typ {f : F} (h1 : FOk f) (hc : 1 ≤ f.cnt) : pfM f.nm (typW f) = (f, true) := by
  obtain ⟨h2, h3, h4⟩ := h1
  have hs := suf_app (typeL f.ty ++ countL f.cnt) 59
  have ht := tyTo_is h3
  have hdec : (true && decide (f.ty ≠ 0)) = true := by rw [decide_eq_true (by omega)]; rfl
  by_cases h5 : f.cnt = 1
  · have e : countL f.cnt = [] := by unfold countL; rw [if_pos h5]
    have hcut : Lib.cut (sufT (typW f) 59) [91] = (typeL f.ty, [], false) := by
      unfold typW; rw [hs.2, e, List.append_nil]; exact cut_miss 91 _ (typ_no h3).1
    have k1 : cutC (typW f) = false := by unfold cutC; rw [hcut]
    have k2 : cutA (typW f) = typeL f.ty := by unfold cutA; rw [hcut]
    rw [pfM_1 k1, k2, ht, show sufB (typW f) 59 = true from hs.1, hdec, ← h5]
  · have e : countL f.cnt = 91 :: (numL f.cnt ++ [93]) := by unfold countL; rw [if_neg h5]; simp
    have hcut : Lib.cut (sufT (typW f) 59) [91] = (typeL f.ty, numL f.cnt ++ [93], true) := by
      unfold typW; rw [hs.2, e]; exact cut_hit 91 _ _ (typ_no h3).1
    have k1 : cutC (typW f) = true := by unfold cutC; rw [hcut]
    have k2 : cutA (typW f) = typeL f.ty := by unfold cutA; rw [hcut]
    have k3 : cutB (typW f) = numL f.cnt ++ [93] := by unfold cutB; rw [hcut]
    have hs2 := suf_app (numL f.cnt) 93
    rw [pfM_4 k1 (by rw [k3]; exact hs2.1) (v := f.cnt) (by rw [k3, hs2.2]; unfold atoiM; rw [parseA h4]), k2, ht, show sufB (typW f) 59 = true from hs.1, hdec]
theorem pre_v (l : List UInt8) : Lib.hasPrefix (118 :: l) [118] = true ∧ Lib.trimPrefix (118 :: l) [118] = l := by
  have h : Lib.hasPrefix (118 :: l) [118] = true := by unfold Lib.hasPrefix; simp [List.isPrefixOf]
  refine ⟨h, ?_⟩
  unfold Lib.trimPrefix; rw [if_pos h]; rfl
theorem name_no {l : List UInt8} (h : nameM l = true) : (32 : UInt8) ∉ l := by
  intro hm
  obtain ⟨i, hi, e⟩ := List.mem_iff_getElem.1 hm
  have hall : allTo l l.length = true := by
    cases hh : allTo l l.length with
    | true => rfl
    | false => rw [nameM_all hh] at h; cases h
  have hch : chB (l.getD i 0) = false := by rw [List.getD_eq_getElem?_getD, List.getElem?_eq_getElem hi, e]; decide
  rw [allTo_bad hi hch] at hall
  cases hall
theorem wsX_no {x : X} (G : Good x) : ∀ w, w ∈ wsX x → (32 : UInt8) ∉ w := by
  have hn : ∀ n, n ≤ x.fs.length → ∀ w, w ∈ fldW x.fs n → (32 : UInt8) ∉ w := by
    intro n
    induction n with
    | zero => intro _ w hw; simp [fldW] at hw
    | succ n ih =>
      intro hn w hw
      rw [fldW] at hw
      rcases List.mem_append.1 hw with hw | hw
      · rcases List.mem_append.1 hw with hw | hw
        · exact ih (by omega) w hw
        · rw [List.mem_singleton.1 hw]
          exact name_no (okF (G.err n (by omega))).1
      · rw [List.mem_singleton.1 hw]
        have hf := fok_of G (show n < x.fs.length by omega)
        have hc := G.cnt n (by omega)
        unfold typW
        simp only [List.mem_append, not_or]
        refine ⟨⟨(typ_no hf.2.1).2, ?_⟩, by decide⟩
        unfold countL
        split
        · simp
        · simp only [List.mem_append, not_or]
          exact ⟨⟨by decide, num_no hf.2.2 (by omega) (by decide)⟩, by decide⟩
  intro w hw
  unfold wsX at hw
  rcases List.mem_append.1 hw with hw | hw
  · rcases List.mem_append.1 hw with hw | hw
    · unfold headW at hw
      have harg := G.arg
      rcases List.mem_cons.1 hw with rfl | hw
      · exact name_no G.nm
      · rcases List.mem_cons.1 hw with rfl | hw
        · intro hm
          rcases List.mem_cons.1 hm with hm | hm
          · exact absurd hm (by decide)
          · exact num_no (n := x.ver) (by omega) (by omega) (by decide) hm
        · rw [List.mem_singleton.1 hw]; decide
    · exact hn _ (Nat.le_refl _) w hw
  · rw [List.mem_singleton.1 hw]; decide
theorem wsX_0 (x : X) : (wsX x).getD 0 default = x.nm := rfl
theorem wsX_1 (x : X) : (wsX x).getD 1 default = 118 :: numL x.ver := rfl
theorem parX_wsX {x : X} (G : Good x) : parX (wsX x) x.ver = x ∧ ∀ i, i < wsN (wsX x) → (pfB (wsX x) i).2 = true := by
  have hp : ∀ i, i < x.fs.length → pfB (wsX x) i = (x.fs.getD i default, true) := fun i hi => by
    unfold pfB
    obtain ⟨h1, h2⟩ := wsX_at x hi
    rw [h1, h2]
    exact pf_typ (fok_of G hi) (G.cnt i hi).1
  refine ⟨?_, fun i hi => by rw [wsX_N] at hi; rw [hp i hi]⟩
  have hfs : pfs (wsX x) (wsN (wsX x)) = x.fs := by
    rw [wsX_N]
    apply List.ext_getElem?
    intro i
    unfold pfs
    rw [List.getElem?_map]
    rcases Nat.lt_or_ge i x.fs.length with h | h
    · rw [List.getElem?_range h]
      simp only [Option.map_some]
      rw [hp i h, List.getD_eq_getElem?_getD, List.getElem?_eq_getElem h]; rfl
    · rw [List.getElem?_eq_none (by simpa using h), List.getElem?_eq_none h]; rfl
  unfold parX
  rw [hfs, wsX_0]
theorem c33T {x : X} (G : Good x) (hx : newE x = 0) (hl : x.fs.length ≤ 40) : PCalls Tryd.prog 33 [.v (.string (bs (textX x)))] (.tup [eL (layM x), .v (.int .i64 0)]) := by
  obtain ⟨hp, hb⟩ := parX_wsX G
  have hlen := textX_len G
  have hw := wsX_len x
  have hh : OkHead (wsX x) x.ver := ⟨by rw [hw]; have := G.arg; omega, by rw [wsX_1]; exact (pre_v _).1, by rw [wsX_1, (pre_v _).2]; unfold atoiM; rw [parseA (by have := G.arg; omega)]⟩
  have hjl : (joinL 32 (wsX x)).length ≤ 1000000 := by rw [join_wsX]; omega
  have cp := c54 (wsX x) (by intro h; rw [h] at hw; simp at hw) (wsX_no G) hjl (by rw [hw]; omega) (layM x) true (fun v' hv' _ => by
    have := hh.num.symm.trans hv'.num
    rw [← Option.some.inj this, hp, hx]; exact ⟨rfl, rfl⟩) (fun hb' => absurd ⟨x.ver, hh, hb⟩ hb')
  rw [join_wsX] at cp
  have ct := c32G G (by omega)
  have hne : ¬ textX x = [] := fun h => by
    have hc := congrArg List.length h
    unfold textX at hc
    simp at hc
  rw [G.lay] at cp ⊢
  exact c33g (textX x) hne _ cp ct
end Go.Proofs.YtlkffmmgcoiniaaDoor
