/- Contracts of functions of this program, and the plain facts that they rest on. No conditions. -/
import Derived.Test.YtcnbngflehiphaaDoorD24
set_option linter.unusedSimpArgs false
set_option linter.unusedVariables false
namespace Go.Proofs.YtcnbngflehiphaaDoor
open Go Go.Ab
attribute [local irreducible] callK callF loopQ vstep vskip pickE hideP
open Go.RowKit
attribute [local go_sem] eI byteAt_bs app_bs
set_option maxRecDepth 100000
/-! The reference's reading of a text. -/
theorem r_frz {P : Program} {nb : Nat} {Q : Exit → ASt → Prop} {s : ASt} {c : Code} (keep : List Nat) (vs : Nat → List (Nat × AV)) (h : ∀ I, hdS nb s keep vs (fun _ => []) [] = I → wkAll nb s I (sgOf nb s I.t I.L) ∧ awp P nb c Q I) : awp P nb c Q s :=
  r_weak (wk_auto (h _ rfl).1) (h _ rfl).2
theorem nDigits_small : ∀ (d n : Nat), n < 10 ^ (d + 1) → Lib.nDigits n ≤ d + 1
  | 0, n, h => by rw [Lib.nDigits, dif_pos (by simpa using h)]; exact Nat.le_refl _
  | d + 1, n, h => by
    rw [Lib.nDigits]
    split
    · omega
    · have := nDigits_small d (n / 10) (by rw [Nat.pow_succ] at h; omega)
      omega
theorem numL_4 {n : Nat} (h : n ≤ 4096) : (numL n).length ≤ 4 ∧ 1 ≤ (numL n).length := by
  unfold numL
  rw [Lib.decDigits_length]
  exact ⟨nDigits_small 3 n (by omega), Lib.nDigits_pos n⟩
theorem digK_ok {t : List UInt8} (h : digK t ≠ 0) : (∀ c, c ∈ t.take (digK t) → Dig c) ∧ digK t ≤ 5 ∧ digK t ≤ t.length ∧ (digK t = 1 ∨ ¬ t.getD 0 0 = 48) := by
  unfold digK at h ⊢
  split at h
  · exact absurd rfl h
  · rename_i hh
    rw [if_neg hh]
    have h1 := pre_le 5 t
    refine ⟨pre_take 5 t, h1.1, h1.2, ?_⟩
    by_cases h2 : pre 5 t = 1
    · exact .inl h2
    · exact .inr fun h3 => hh ⟨by omega, h3⟩
theorem digK_le (t : List UInt8) : digK t ≤ 5 := by
  by_cases h : digK t = 0
  · omega
  · exact (digK_ok h).2.1
theorem digK_val (t : List UInt8) : valA 0 (t.take (digK t)) < 100000 := by
  by_cases h : digK t = 0
  · rw [h, List.take_zero]; decide
  · have h0 := digK_ok h
    have h1 := val_lt (t.take (digK t)) 0 h0.1
    have h2 : (t.take (digK t)).length ≤ 5 := by rw [List.length_take]; omega
    have h3 := Nat.pow_le_pow_right (show 0 < 10 by decide) h2
    have h4 : (10 : Nat) ^ 5 = 100000 := by decide
    omega
theorem dig_pre {hd r : List UInt8} {n : Nat} (hn : n ≤ 4096) (he : hd = numL n) (hr : r = [] ∨ ¬ Dig (r.getD 0 0)) : digK (hd ++ r) = hd.length := by
  have h1 := numL_4 hn
  have h2 := dec_val n
  have h3 : ∀ j, j < hd.length → (hd ++ r).getD j 0 = hd.getD j 0 := fun j hj => getD_left hj
  have e : pre 5 (hd ++ r) = hd.length := by
    refine pre_is 5 _ _ (fun j hj => ?_) (by rw [he]; omega) (by simp) ?_
    · rw [h3 j hj]
      refine h2.2 _ ?_
      rw [show Lib.decDigits n = hd from he.symm]
      exact getD_mem hj
    · rcases hr with rfl | hr
      · right; left; simp
      · right; right
        rw [getD_right (Nat.le_refl _), Nat.sub_self]; exact hr
  unfold digK
  rw [e, if_neg]
  rintro ⟨g1, g2⟩
  rw [h3 0 (by omega), he] at g2
  exact dec_lead n (by rw [he] at g1; exact g1) g2
theorem lnS_fwd {t r : List UInt8} {n : Nat} (h : lnS t = some (n, r)) : digK t ≠ 0 ∧ t.length = digK t + 137 ∧ t.getD (digK t) 0 = 58 ∧ n = valA 0 (t.take (digK t)) ∧ r = t.drop (digK t + 1) := by
  have h1 := lnS_lt h
  have h2 := lnS_inv h
  have h3 := numL_4 h1.1
  subst h2
  rw [dig_pre h1.1 rfl (.inr (by show ¬ Dig 58; decide))]
  refine ⟨by omega, by simp [h1.2], ?_, ?_, ?_⟩
  · rw [getD_right (Nat.le_refl _), Nat.sub_self]; rfl
  · rw [List.take_left]; exact (dec_val n).1.symm
  · rw [show numL n ++ 58 :: r = (numL n ++ [58]) ++ r by simp, List.drop_left' (by simp)]
theorem lnS_bwd {t : List UInt8} (h0 : digK t ≠ 0) (h1 : t.length = digK t + 137) (h2 : t.getD (digK t) 0 = 58) (h3 : valA 0 (t.take (digK t)) ≤ 4096) : lnS t = some (valA 0 (t.take (digK t)), t.drop (digK t + 1)) := by
  obtain ⟨g1, g2, g3, g4⟩ := digK_ok h0
  generalize digK t = k at *
  have hk : k < t.length := by omega
  have e : t = t.take k ++ 58 :: t.drop (k + 1) := by
    rw [List.getD_eq_getElem?_getD, List.getElem?_eq_getElem hk] at h2
    have h5 : t[k] = 58 := h2
    have := List.take_append_drop k t
    rw [List.drop_eq_getElem_cons hk, h5] at this
    exact this.symm
  have hl : (t.take k).length = k := by rw [List.length_take]; omega
  have hn : (58 : UInt8) ∉ t.take k := fun h => by have := g1 _ h; revert this; decide
  have hd : (t.drop (k + 1)).length = 136 := by rw [List.length_drop]; omega
  have h4 : numOk 4096 (t.take k) = true := by
    refine numOk_iff.2 ⟨fun h => by rw [h] at hl; simp at hl; omega, g1, ?_, h3⟩
    rcases g4 with g4 | g4
    · left; omega
    · right
      rw [e, getD_left (by omega)] at g4; exact g4
  unfold lnS
  generalize t.take k = a at *
  generalize t.drop (k + 1) = b at *
  subst e
  rw [cut_hit 58 _ _ hn]
  exact if_pos ⟨h4, hd⟩
theorem headN_fwd {t : List UInt8} {n : Nat} (h : headN t = some n) : t.take 6 = headS ∧ digK (t.drop 6) ≠ 0 ∧ 6 + digK (t.drop 6) = t.length ∧ n = valA 0 ((t.drop 6).take (digK (t.drop 6))) ∧ n ≤ 4096 := by
  obtain ⟨h1, h2⟩ := headN_inv h
  have h3 := numL_4 h2
  have e := dig_pre (r := []) h2 rfl (.inl rfl)
  rw [List.append_nil] at e
  have hd : t.drop 6 = numL n := by rw [h1]; rfl
  rw [hd, e]
  refine ⟨by rw [h1]; rfl, by omega, by rw [h1, List.length_append]; rfl, ?_, h2⟩
  rw [List.take_length]; exact (dec_val n).1.symm
theorem headN_bwd {t : List UInt8} (h1 : t.take 6 = headS) (h2 : digK (t.drop 6) ≠ 0) (h3 : 6 + digK (t.drop 6) = t.length) (h4 : valA 0 ((t.drop 6).take (digK (t.drop 6))) ≤ 4096) : headN t = some (valA 0 ((t.drop 6).take (digK (t.drop 6)))) := by
  obtain ⟨g1, g2, g3, g4⟩ := digK_ok h2
  have e : t = headS ++ t.drop 6 := by rw [← h1, List.take_append_drop]
  have hl : (t.drop 6).length = digK (t.drop 6) := by rw [List.length_drop]; omega
  generalize t.drop 6 = u at *
  subst e
  unfold headN
  rw [(head_pre u).1, (head_pre u).2]
  rw [List.take_of_length_le (by omega)] at g1 h4 ⊢
  rw [if_pos]
  refine ⟨rfl, numOk_iff.2 ⟨fun h => by have h5 : u.length = 0 := (by rw [h]; rfl); omega, g1, ?_, h4⟩⟩
  rcases g4 with g4 | g4
  · left; omega
  · exact .inr g4
theorem parM_line {first rest : List UInt8} (hx : (10 : UInt8) ∉ first) : parM (first ++ 10 :: rest) = match headN first with
    | some n => parF n (rest.length + 1) rest (zerosM (64 * n)) (-1) 2
    | none => ([], 1, 11) := by
  unfold parM; rw [cut_hit 10 _ _ hx]
  dsimp only
  cases headN first <;> rfl
theorem parM_none {s : List UInt8} (hx : (10 : UInt8) ∉ s) : parM s = ([], 1, 11) := by
  unfold parM; rw [cut_miss 10 _ hx]
theorem headN_no {t : List UInt8} (h : ¬ (t.take 6 = headS ∧ digK (t.drop 6) ≠ 0 ∧ 6 + digK (t.drop 6) = t.length ∧ valA 0 ((t.drop 6).take (digK (t.drop 6))) ≤ 4096)) : headN t = none := by
  cases e : headN t with
  | none => rfl
  | some n =>
    obtain ⟨h1, h2, h3, h4, h5⟩ := headN_fwd e
    exact absurd ⟨h1, h2, h3, by omega⟩ h
theorem goodL_none {lines : Nat} {prev : Int} {t : List UInt8} (h : ¬ (digK t ≠ 0 ∧ t.length = digK t + 137 ∧ t.getD (digK t) 0 = 58 ∧ valA 0 (t.take (digK t)) < lines ∧ prev < valA 0 (t.take (digK t)))) : goodL lines prev t = none :=
  goodL_no fun n r e hh => by
    obtain ⟨h1, h2, h3, h4, h5⟩ := lnS_fwd e
    exact h ⟨h1, h2, h3, by omega, by omega⟩
def anyK (r : List UInt8) (k : Nat) : Bool := (List.range k).any (fun k => decide (partV r k ≠ 0))
theorem anyK_s (r : List UInt8) (k : Nat) : anyK r (k + 1) = (anyK r k || decide (partV r k ≠ 0)) := by
  unfold anyK; rw [List.range_succ, List.any_append]; simp
theorem anyK_0 (r : List UInt8) : anyK r 0 = false := rfl
theorem anyK_8 (r : List UInt8) : anyK r 8 = anyN r := rfl
theorem nl_at {t : List UInt8} (h : (10 : UInt8) ∉ t) {j : Nat} (hj : j < t.length) : ¬ ((t.getD j 0).toNat : Int) = 10 := fun e => by
  have : t.getD j 0 = 10 := by apply u8_ext; show _ = 10; omega
  exact h (this ▸ getD_mem hj)
theorem c68p (r : List UInt8) (k : Nat) (h : r.length = 136) (hk : k < 8) : PCalls Tryd.prog 68 [.v (.string (bs (List.drop 1 (List.take 17 (List.drop (17 * k) r)))))] (.tup [.v (.int .u64 (partV r k)), .v (.bool (hxOk ((r.drop (17 * k + 1)).take 16)))]) := by
  rw [part_e]; exact c68 _ (by rw [List.length_take, List.length_drop]; omega)
attribute [local irreducible] parF putR putM digK
set_option maxRecDepth 100000 in
set_option maxHeartbeats 4000000 in
theorem c41 (s : List UInt8) (hl : s.length ≤ 100000) : PCalls Tryd.prog 41 [.v (.string (bs s))] (.tup [.view 1 ((parM s).1.map eB), .v (.int .i64 (parM s).2.1), .v (.int .i64 (parM s).2.2)]) := by
  refine pcalls_of (E := E) (fn := Tryd.f41) 163 [.tmp 2, .tmp 3, .tmp 4] rfl rfl rfl rfl (by decide) rfl ?_
  obtain ⟨R, hR⟩ : ∃ R, parM s = R := ⟨_, rfl⟩
  rw [hR]
  repeat' (first
    | (with_reducible first | refine r_seq ?_ | refine r_block ?_ | refine fork_not ?_ | refine fork_and ?_ | refine fork_or ?_ | refine chk_ok (by kernel_rfl) ?_)
    | ((with_reducible first | refine fork_dec ?_ ?_ | refine fork_eq ?_ ?_ | refine fork_ne ?_ ?_ | refine fork_intro ?_ ?_) <;> intro h <;> try (exfalso; first | omega | exact h rfl | (revert h; decide) | (cases h; done)))
    | ((with_reducible show False); omega)
    | ((first | (with_reducible first | refine r_exit ?_ | refine r_skip ?_ | refine r_cond ?_ | refine r_region ?_ | show VX _ _ _ _ _ _ _ | show vstep _ _ _ _ _ | show vskip _ _ _ | show withV _ _) | ((with_reducible show endA _ _ _ _ _ _ _); simp -implicitDefEqProofs only [endA])); simp -dsimp -implicitDefEqProofs (maxSteps := 1000000) (disch := first | omega | (simp only [LN]; omega)) only [go_sem, Int.reduceToNat, Int.reducePow, Nat.reducePow, Int.reduceAdd, Int.reduceMul, Int.reduceSub, Int.reduceNeg, Nat.reduceAdd, Nat.reduceMul, Nat.reduceSub, Nat.reduceEqDiff, Nat.reduceLT, Nat.reduceLeDiff])
    | ((first | (with_reducible refine r_ret ?_) | (with_reducible refine pick_viewG default (by first | omega | (simp only [LN]; omega)) (by first | omega | (simp only [LN]; omega)) ?_) | (with_reducible refine pick_own default (by first | omega | (simp only [LN]; omega)) ?_) | (with_reducible refine And.intro (by first | decide | omega | assumption | (simp only [LN]; omega)) ?_) | ((with_reducible show pickE _ _ _); first | refine pickE_intro _ ⟨by omega, by rfl⟩ ?_ | refine pickE_intro _ (by rfl) ?_) | fail); try simp -dsimp -implicitDefEqProofs (maxSteps := 1000000) (disch := first | omega | (simp only [LN]; omega)) only [go_sem, Int.reduceToNat, Int.reducePow, Nat.reducePow, Int.reduceAdd, Int.reduceMul, Int.reduceSub, Int.reduceNeg, Nat.reduceAdd, Nat.reduceMul, Nat.reduceSub, Nat.reduceEqDiff, Nat.reduceLT, Nat.reduceLeDiff])
    | fail)
  refine r_loopA (α := List UInt8 × List UInt8 × Int × Nat × Nat) [] (fun x b => [(0, .p (.v (.string (bs x.1)))), (5, .p (.view 1 (x.2.1.map eB))), (7, .p (.v (.int .i64 x.2.2.1))), (6, .p (.v (.int .i64 (x.2.2.2.1 : Nat))))]) (fun x b => []) (fun x => []) (fun x => (x.1 = s ∧ x.2.1 = [] ∧ x.2.2.1 = -1 ∧ x.2.2.2.1 = 1) ∨ (2 ≤ x.2.2.2.1 ∧ x.1 ≠ [] ∧ ∃ L, L ≤ 4096 ∧ x.2.1.length = 64 * L ∧ parF L x.2.2.2.2 x.1 x.2.1 x.2.2.1 x.2.2.2.1 = R ∧ x.1.length < x.2.2.2.2 ∧ x.2.2.2.1 + x.1.length ≤ 100002 ∧ -1 ≤ x.2.2.1 ∧ x.2.2.1 ≤ 4096)) (fun x => x.1.length) ((s, [], -1, 1, 0)) ?h0_1 ?hs0_1 ?I_1 ?hI_1 ?round_1
  case hI_1 => intro x; (simp -dsimp -implicitDefEqProofs (maxSteps := 1000000) (disch := first | omega | (simp only [LN]; omega)) only [go_sem, Int.reduceToNat, Int.reducePow, Nat.reducePow, Int.reduceAdd, Int.reduceMul, Int.reduceSub, Int.reduceNeg, Nat.reduceAdd, Nat.reduceMul, Nat.reduceSub, Nat.reduceEqDiff, Nat.reduceLT, Nat.reduceLeDiff]) <;> exact rfl
  case hs0_1 => refine wk_auto ?_; (simp -dsimp -implicitDefEqProofs (maxSteps := 1000000) (disch := first | omega | (simp only [LN]; omega)) only [go_sem, Int.reduceToNat, Int.reducePow, Nat.reducePow, Int.reduceAdd, Int.reduceMul, Int.reduceSub, Int.reduceNeg, Nat.reduceAdd, Nat.reduceMul, Nat.reduceSub, Nat.reduceEqDiff, Nat.reduceLT, Nat.reduceLeDiff]) <;> (try omega)
  case h0_1 => exact .inl ⟨rfl, rfl, rfl, rfl⟩
  case round_1 =>
    rintro ⟨rest, p, prev, at', f⟩ hP
    dsimp only at hP
    rcases hP with ⟨rfl, rfl, rfl, rfl⟩ | ⟨g0, hn, L, hL, g3, g1, g2, g4, g5, g6⟩
    · rcases cut_spec 10 rest with ⟨gx, gc⟩ | ⟨t, after, rfl, gx, gc⟩
      · rw [parM_none gx] at hR
        subst hR
        repeat' (first
          | (with_reducible first | refine r_seq ?_ | refine r_block ?_ | refine fork_not ?_ | refine fork_and ?_ | refine fork_or ?_ | refine chk_ok (by kernel_rfl) ?_)
          | ((with_reducible first | refine fork_dec ?_ ?_ | refine fork_eq ?_ ?_ | refine fork_ne ?_ ?_ | refine fork_intro ?_ ?_) <;> intro h <;> try (exfalso; first | omega | exact h rfl | (revert h; decide) | (cases h; done)))
          | ((with_reducible show False); omega)
          | ((first | (with_reducible first | refine r_exit ?_ | refine r_skip ?_ | refine r_cond ?_ | refine r_region ?_ | show VX _ _ _ _ _ _ _ | show vstep _ _ _ _ _ | show vskip _ _ _ | show withV _ _) | ((with_reducible show endA _ _ _ _ _ _ _); simp -implicitDefEqProofs only [endA])); simp -dsimp -implicitDefEqProofs (maxSteps := 1000000) (disch := first | omega | (simp only [LN]; omega)) only [go_sem, Int.reduceToNat, Int.reducePow, Nat.reducePow, Int.reduceAdd, Int.reduceMul, Int.reduceSub, Int.reduceNeg, Nat.reduceAdd, Nat.reduceMul, Nat.reduceSub, Nat.reduceEqDiff, Nat.reduceLT, Nat.reduceLeDiff])
          | ((first | (with_reducible refine r_ret ?_) | (with_reducible refine pick_viewG default (by first | omega | (simp only [LN]; omega)) (by first | omega | (simp only [LN]; omega)) ?_) | (with_reducible refine pick_own default (by first | omega | (simp only [LN]; omega)) ?_) | (with_reducible refine And.intro (by first | decide | omega | assumption | (simp only [LN]; omega)) ?_) | ((with_reducible show pickE _ _ _); first | refine pickE_intro _ ⟨by omega, by rfl⟩ ?_ | refine pickE_intro _ (by rfl) ?_) | fail); try simp -dsimp -implicitDefEqProofs (maxSteps := 1000000) (disch := first | omega | (simp only [LN]; omega)) only [go_sem, Int.reduceToNat, Int.reducePow, Nat.reducePow, Int.reduceAdd, Int.reduceMul, Int.reduceSub, Int.reduceNeg, Nat.reduceAdd, Nat.reduceMul, Nat.reduceSub, Nat.reduceEqDiff, Nat.reduceLT, Nat.reduceLeDiff])
          | fail)
        refine r_loopA (α := Nat) [0, 5, 6, 7] (fun e b => [(8, aI e)]) (fun e b => []) (fun e => []) (fun e => e ≤ rest.length) (fun e => rest.length - e) (0) ?h0_2 ?hs0_2 ?I_2 ?hI_2 ?round_2
        case hI_2 => intro x; (simp -dsimp -implicitDefEqProofs (maxSteps := 1000000) (disch := first | omega | (simp only [LN]; omega)) only [go_sem, Int.reduceToNat, Int.reducePow, Nat.reducePow, Int.reduceAdd, Int.reduceMul, Int.reduceSub, Int.reduceNeg, Nat.reduceAdd, Nat.reduceMul, Nat.reduceSub, Nat.reduceEqDiff, Nat.reduceLT, Nat.reduceLeDiff]) <;> exact rfl
        case hs0_2 => refine wk_auto ?_; (simp -dsimp -implicitDefEqProofs (maxSteps := 1000000) (disch := first | omega | (simp only [LN]; omega)) only [go_sem, Int.reduceToNat, Int.reducePow, Nat.reducePow, Int.reduceAdd, Int.reduceMul, Int.reduceSub, Int.reduceNeg, Nat.reduceAdd, Nat.reduceMul, Nat.reduceSub, Nat.reduceEqDiff, Nat.reduceLT, Nat.reduceLeDiff]) <;> (try omega)
        case h0_2 => exact Nat.zero_le _
        case round_2 =>
          intro e he
          by_cases hel : e < rest.length
          · have hb := nl_at gx hel
            repeat' (first
              | (with_reducible first | refine r_seq ?_ | refine r_block ?_ | refine fork_not ?_ | refine fork_and ?_ | refine fork_or ?_ | refine chk_ok (by kernel_rfl) ?_)
              | ((with_reducible first | refine fork_dec ?_ ?_ | refine fork_eq ?_ ?_ | refine fork_ne ?_ ?_ | refine fork_intro ?_ ?_) <;> intro h <;> try (exfalso; first | omega | exact h rfl | (revert h; decide) | (cases h; done)))
              | ((with_reducible show False); omega)
              | ((first | (with_reducible first | refine r_exit ?_ | refine r_skip ?_ | refine r_cond ?_ | refine r_region ?_ | show VX _ _ _ _ _ _ _ | show vstep _ _ _ _ _ | show vskip _ _ _ | show withV _ _) | ((with_reducible show endA _ _ _ _ _ _ _); simp -implicitDefEqProofs only [endA])); simp -dsimp -implicitDefEqProofs (maxSteps := 1000000) (disch := first | omega | (simp only [LN]; omega)) only [go_sem, Int.reduceToNat, Int.reducePow, Nat.reducePow, Int.reduceAdd, Int.reduceMul, Int.reduceSub, Int.reduceNeg, Nat.reduceAdd, Nat.reduceMul, Nat.reduceSub, Nat.reduceEqDiff, Nat.reduceLT, Nat.reduceLeDiff])
              | ((first | (with_reducible refine r_ret ?_) | (with_reducible refine pick_viewG default (by first | omega | (simp only [LN]; omega)) (by first | omega | (simp only [LN]; omega)) ?_) | (with_reducible refine pick_own default (by first | omega | (simp only [LN]; omega)) ?_) | (with_reducible refine And.intro (by first | decide | omega | assumption | (simp only [LN]; omega)) ?_) | ((with_reducible show pickE _ _ _); first | refine pickE_intro _ ⟨by omega, by rfl⟩ ?_ | refine pickE_intro _ (by rfl) ?_) | fail); try simp -dsimp -implicitDefEqProofs (maxSteps := 1000000) (disch := first | omega | (simp only [LN]; omega)) only [go_sem, Int.reduceToNat, Int.reducePow, Nat.reducePow, Int.reduceAdd, Int.reduceMul, Int.reduceSub, Int.reduceNeg, Nat.reduceAdd, Nat.reduceMul, Nat.reduceSub, Nat.reduceEqDiff, Nat.reduceLT, Nat.reduceLeDiff])
              | fail)
            (refine loopQ_next (e + 1) ?_ ?_ ?_; (omega); (show _ < _; omega); (simp -dsimp -implicitDefEqProofs (maxSteps := 1000000) (disch := first | omega | (simp only [LN]; omega)) only [go_sem, Int.reduceToNat, Int.reducePow, Nat.reducePow, Int.reduceAdd, Int.reduceMul, Int.reduceSub, Int.reduceNeg, Nat.reduceAdd, Nat.reduceMul, Nat.reduceSub, Nat.reduceEqDiff, Nat.reduceLT, Nat.reduceLeDiff]; try trivial))
          · repeat' (first
              | (with_reducible first | refine r_seq ?_ | refine r_block ?_ | refine fork_not ?_ | refine fork_and ?_ | refine fork_or ?_ | refine chk_ok (by kernel_rfl) ?_)
              | ((with_reducible first | refine fork_dec ?_ ?_ | refine fork_eq ?_ ?_ | refine fork_ne ?_ ?_ | refine fork_intro ?_ ?_) <;> intro h <;> try (exfalso; first | omega | exact h rfl | (revert h; decide) | (cases h; done)))
              | ((with_reducible show False); omega)
              | ((first | (with_reducible first | refine r_exit ?_ | refine r_skip ?_ | refine r_cond ?_ | refine r_region ?_ | show VX _ _ _ _ _ _ _ | show vstep _ _ _ _ _ | show vskip _ _ _ | show withV _ _) | ((with_reducible show endA _ _ _ _ _ _ _); simp -implicitDefEqProofs only [endA])); simp -dsimp -implicitDefEqProofs (maxSteps := 1000000) (disch := first | omega | (simp only [LN]; omega)) only [go_sem, Int.reduceToNat, Int.reducePow, Nat.reducePow, Int.reduceAdd, Int.reduceMul, Int.reduceSub, Int.reduceNeg, Nat.reduceAdd, Nat.reduceMul, Nat.reduceSub, Nat.reduceEqDiff, Nat.reduceLT, Nat.reduceLeDiff])
              | ((first | (with_reducible refine r_ret ?_) | (with_reducible refine pick_viewG default (by first | omega | (simp only [LN]; omega)) (by first | omega | (simp only [LN]; omega)) ?_) | (with_reducible refine pick_own default (by first | omega | (simp only [LN]; omega)) ?_) | (with_reducible refine And.intro (by first | decide | omega | assumption | (simp only [LN]; omega)) ?_) | ((with_reducible show pickE _ _ _); first | refine pickE_intro _ ⟨by omega, by rfl⟩ ?_ | refine pickE_intro _ (by rfl) ?_) | fail); try simp -dsimp -implicitDefEqProofs (maxSteps := 1000000) (disch := first | omega | (simp only [LN]; omega)) only [go_sem, Int.reduceToNat, Int.reducePow, Nat.reducePow, Int.reduceAdd, Int.reduceMul, Int.reduceSub, Int.reduceNeg, Nat.reduceAdd, Nat.reduceMul, Nat.reduceSub, Nat.reduceEqDiff, Nat.reduceLT, Nat.reduceLeDiff])
              | fail)
            all_goals trace_state
      · rw [parM_line gx] at hR
        have hlt : t.length + after.length < 100000 := by rw [List.length_append, List.length_cons] at hl; omega
        have htl : (t ++ 10 :: after).length = t.length + after.length + 1 := by rw [List.length_append, List.length_cons]; omega
        have htk : List.take t.length (t ++ 10 :: after) = t := List.take_left
        have hdr : List.drop (t.length + 1) (t ++ 10 :: after) = after := by rw [show t ++ 10 :: after = (t ++ [10]) ++ after by simp, List.drop_left' (by simp)]
        repeat' (first
          | (with_reducible first | refine r_seq ?_ | refine r_block ?_ | refine fork_not ?_ | refine fork_and ?_ | refine fork_or ?_ | refine chk_ok (by kernel_rfl) ?_)
          | ((with_reducible first | refine fork_dec ?_ ?_ | refine fork_eq ?_ ?_ | refine fork_ne ?_ ?_ | refine fork_intro ?_ ?_) <;> intro h <;> try (exfalso; first | omega | exact h rfl | (revert h; decide) | (cases h; done)))
          | ((with_reducible show False); omega)
          | ((first | (with_reducible first | refine r_exit ?_ | refine r_skip ?_ | refine r_cond ?_ | refine r_region ?_ | show VX _ _ _ _ _ _ _ | show vstep _ _ _ _ _ | show vskip _ _ _ | show withV _ _) | ((with_reducible show endA _ _ _ _ _ _ _); simp -implicitDefEqProofs only [endA])); simp -dsimp -implicitDefEqProofs (maxSteps := 1000000) (disch := first | omega | (simp only [LN]; omega)) only [go_sem, Int.reduceToNat, Int.reducePow, Nat.reducePow, Int.reduceAdd, Int.reduceMul, Int.reduceSub, Int.reduceNeg, Nat.reduceAdd, Nat.reduceMul, Nat.reduceSub, Nat.reduceEqDiff, Nat.reduceLT, Nat.reduceLeDiff])
          | ((first | (with_reducible refine r_ret ?_) | (with_reducible refine pick_viewG default (by first | omega | (simp only [LN]; omega)) (by first | omega | (simp only [LN]; omega)) ?_) | (with_reducible refine pick_own default (by first | omega | (simp only [LN]; omega)) ?_) | (with_reducible refine And.intro (by first | decide | omega | assumption | (simp only [LN]; omega)) ?_) | ((with_reducible show pickE _ _ _); first | refine pickE_intro _ ⟨by omega, by rfl⟩ ?_ | refine pickE_intro _ (by rfl) ?_) | fail); try simp -dsimp -implicitDefEqProofs (maxSteps := 1000000) (disch := first | omega | (simp only [LN]; omega)) only [go_sem, Int.reduceToNat, Int.reducePow, Nat.reducePow, Int.reduceAdd, Int.reduceMul, Int.reduceSub, Int.reduceNeg, Nat.reduceAdd, Nat.reduceMul, Nat.reduceSub, Nat.reduceEqDiff, Nat.reduceLT, Nat.reduceLeDiff])
          | fail)
        refine r_loopA (α := Nat) [0, 5, 6, 7] (fun e b => [(8, aI e)]) (fun e b => []) (fun e => []) (fun e => e ≤ t.length) (fun e => t.length - e) (0) ?h0_3 ?hs0_3 ?I_3 ?hI_3 ?round_3
        case hI_3 => intro x; (simp -dsimp -implicitDefEqProofs (maxSteps := 1000000) (disch := first | omega | (simp only [LN]; omega)) only [go_sem, Int.reduceToNat, Int.reducePow, Nat.reducePow, Int.reduceAdd, Int.reduceMul, Int.reduceSub, Int.reduceNeg, Nat.reduceAdd, Nat.reduceMul, Nat.reduceSub, Nat.reduceEqDiff, Nat.reduceLT, Nat.reduceLeDiff]) <;> exact rfl
        case hs0_3 => refine wk_auto ?_; (simp -dsimp -implicitDefEqProofs (maxSteps := 1000000) (disch := first | omega | (simp only [LN]; omega)) only [go_sem, Int.reduceToNat, Int.reducePow, Nat.reducePow, Int.reduceAdd, Int.reduceMul, Int.reduceSub, Int.reduceNeg, Nat.reduceAdd, Nat.reduceMul, Nat.reduceSub, Nat.reduceEqDiff, Nat.reduceLT, Nat.reduceLeDiff]) <;> (try omega)
        case h0_3 => exact Nat.zero_le _
        case round_3 =>
          intro e he
          by_cases hel : e < t.length
          · have hb := nl_at gx hel
            have hb2 : (t ++ 10 :: after).getD e 0 = t.getD e 0 := getD_left hel
            repeat' (first
              | (with_reducible first | refine r_seq ?_ | refine r_block ?_ | refine fork_not ?_ | refine fork_and ?_ | refine fork_or ?_ | refine chk_ok (by kernel_rfl) ?_)
              | ((with_reducible first | refine fork_dec ?_ ?_ | refine fork_eq ?_ ?_ | refine fork_ne ?_ ?_ | refine fork_intro ?_ ?_) <;> intro h <;> try (exfalso; first | omega | exact h rfl | (revert h; decide) | (cases h; done)))
              | ((with_reducible show False); omega)
              | ((first | (with_reducible first | refine r_exit ?_ | refine r_skip ?_ | refine r_cond ?_ | refine r_region ?_ | show VX _ _ _ _ _ _ _ | show vstep _ _ _ _ _ | show vskip _ _ _ | show withV _ _) | ((with_reducible show endA _ _ _ _ _ _ _); simp -implicitDefEqProofs only [endA])); simp -dsimp -implicitDefEqProofs (maxSteps := 1000000) (disch := first | omega | (simp only [LN, htl, hb2]; omega)) only [go_sem, Int.reduceToNat, Int.reducePow, Nat.reducePow, Int.reduceAdd, Int.reduceMul, Int.reduceSub, Int.reduceNeg, Nat.reduceAdd, Nat.reduceMul, Nat.reduceSub, Nat.reduceEqDiff, Nat.reduceLT, Nat.reduceLeDiff, htl, hb2])
              | ((first | (with_reducible refine r_ret ?_) | (with_reducible refine pick_viewG default (by first | omega | (simp only [LN, htl, hb2]; omega)) (by first | omega | (simp only [LN, htl, hb2]; omega)) ?_) | (with_reducible refine pick_own default (by first | omega | (simp only [LN, htl, hb2]; omega)) ?_) | (with_reducible refine And.intro (by first | decide | omega | assumption | (simp only [LN, htl, hb2]; omega)) ?_) | ((with_reducible show pickE _ _ _); first | refine pickE_intro _ ⟨by omega, by rfl⟩ ?_ | refine pickE_intro _ (by rfl) ?_) | fail); try simp -dsimp -implicitDefEqProofs (maxSteps := 1000000) (disch := first | omega | (simp only [LN, htl, hb2]; omega)) only [go_sem, Int.reduceToNat, Int.reducePow, Nat.reducePow, Int.reduceAdd, Int.reduceMul, Int.reduceSub, Int.reduceNeg, Nat.reduceAdd, Nat.reduceMul, Nat.reduceSub, Nat.reduceEqDiff, Nat.reduceLT, Nat.reduceLeDiff, htl, hb2])
              | fail)
            (refine loopQ_next (e + 1) ?_ ?_ ?_; (omega); (show _ < _; omega); (simp -dsimp -implicitDefEqProofs (maxSteps := 1000000) (disch := first | omega | (simp only [LN]; omega)) only [go_sem, Int.reduceToNat, Int.reducePow, Nat.reducePow, Int.reduceAdd, Int.reduceMul, Int.reduceSub, Int.reduceNeg, Nat.reduceAdd, Nat.reduceMul, Nat.reduceSub, Nat.reduceEqDiff, Nat.reduceLT, Nat.reduceLeDiff]; try trivial))
          · obtain rfl : e = t.length := by omega
            have hb2 : (t ++ 10 :: after).getD t.length 0 = 10 := by rw [getD_right (Nat.le_refl _), Nat.sub_self]; rfl
            have k67 := c67 (t.drop 6) (by rw [List.length_drop]; omega)
            have hdk := digK_le (t.drop 6)
            by_cases hc : t.take 6 = headS ∧ digK (t.drop 6) ≠ 0 ∧ 6 + digK (t.drop 6) = t.length ∧ valA 0 ((t.drop 6).take (digK (t.drop 6))) ≤ 4096
            · rw [headN_bwd hc.1 hc.2.1 hc.2.2.1 hc.2.2.2] at hR
              dsimp only at hR
              obtain ⟨c1, c2, c3, c4⟩ := hc
              generalize valA 0 ((t.drop 6).take (digK (t.drop 6))) = n at *
              generalize digK (t.drop 6) = k at *
              have e8 : ((64 : Int) * n).toNat = 64 * n := by omega
              have hz : (zerosM (64 * n)).length = 64 * n := by simp [zerosM]
              repeat' ((fail_if_success (with_reducible show awp _ _ (Code.region 33 _ _) _ _)); first
                | (with_reducible first | refine r_seq ?_ | refine r_block ?_ | refine fork_not ?_ | refine fork_and ?_ | refine fork_or ?_ | refine chk_ok (by kernel_rfl) ?_)
                | ((with_reducible first | refine fork_dec ?_ ?_ | refine fork_eq ?_ ?_ | refine fork_ne ?_ ?_ | refine fork_intro ?_ ?_) <;> intro h <;> try (exfalso; first | omega | exact h rfl | (revert h; decide) | (cases h; done)))
                | ((with_reducible show False); omega)
                | ((first | (with_reducible first | refine r_exit ?_ | refine r_skip ?_ | refine r_cond ?_ | refine r_region ?_ | show VX _ _ _ _ _ _ _ | show vstep _ _ _ _ _ | show vskip _ _ _ | show withV _ _) | ((with_reducible show endA _ _ _ _ _ _ _); simp -implicitDefEqProofs only [endA])); simp -dsimp -implicitDefEqProofs (maxSteps := 1000000) (disch := first | omega | (simp only [LN, htl, hb2, htk, hdr, c1, headS, e8]; omega)) only [go_sem, Int.reduceToNat, Int.reducePow, Nat.reducePow, Int.reduceAdd, Int.reduceMul, Int.reduceSub, Int.reduceNeg, Nat.reduceAdd, Nat.reduceMul, Nat.reduceSub, Nat.reduceEqDiff, Nat.reduceLT, Nat.reduceLeDiff, htl, hb2, htk, hdr, c1, headS, e8])
                | ((first | (with_reducible refine r_ret ?_) | (with_reducible refine pick_viewG default (by first | omega | (simp only [LN, htl, hb2, htk, hdr, c1, headS, e8]; omega)) (by first | omega | (simp only [LN, htl, hb2, htk, hdr, c1, headS, e8]; omega)) ?_) | (with_reducible refine pick_own default (by first | omega | (simp only [LN, htl, hb2, htk, hdr, c1, headS, e8]; omega)) ?_) | (with_reducible refine And.intro (by first | decide | omega | assumption | (simp only [LN, htl, hb2, htk, hdr, c1, headS, e8]; omega)) ?_) | ((with_reducible apply callK_pure); (exact k67)) | ((with_reducible apply callF_lend); (exact k67); rfl) | ((with_reducible apply callF_go); (exact k67)) | ((with_reducible show pickE _ _ _); first | refine pickE_intro _ ⟨by omega, by rfl⟩ ?_ | refine pickE_intro _ (by rfl) ?_) | fail); try simp -dsimp -implicitDefEqProofs (maxSteps := 1000000) (disch := first | omega | (simp only [LN, htl, hb2, htk, hdr, c1, headS, e8]; omega)) only [go_sem, Int.reduceToNat, Int.reducePow, Nat.reducePow, Int.reduceAdd, Int.reduceMul, Int.reduceSub, Int.reduceNeg, Nat.reduceAdd, Nat.reduceMul, Nat.reduceSub, Nat.reduceEqDiff, Nat.reduceLT, Nat.reduceLeDiff, htl, hb2, htk, hdr, c1, headS, e8])
                | fail)
              refine r_frz [0, 6, 7] (fun b => [(5, .p (.view 1 ((zerosM (64 * n)).map eB)))]) fun I hI => ?_
              simp -dsimp -implicitDefEqProofs (maxSteps := 1000000) (disch := first | omega | (simp only [LN]; omega)) only [go_sem, Int.reduceToNat, Int.reducePow, Nat.reducePow, Int.reduceAdd, Int.reduceMul, Int.reduceSub, Int.reduceNeg, Nat.reduceAdd, Nat.reduceMul, Nat.reduceSub, Nat.reduceEqDiff, Nat.reduceLT, Nat.reduceLeDiff] at hI
              subst hI
              refine And.intro ?_ ?_
              · (simp -dsimp -implicitDefEqProofs (maxSteps := 1000000) (disch := first | omega | (simp only [LN, map_zeros8, List.length_replicate, List.take_replicate, Nat.min_self]; omega)) only [go_sem, Int.reduceToNat, Int.reducePow, Nat.reducePow, Int.reduceAdd, Int.reduceMul, Int.reduceSub, Int.reduceNeg, Nat.reduceAdd, Nat.reduceMul, Nat.reduceSub, Nat.reduceEqDiff, Nat.reduceLT, Nat.reduceLeDiff, map_zeros8, List.length_replicate, List.take_replicate, Nat.min_self]) <;> (try omega)
              by_cases ha : after = []
              · subst ha
                rw [parF_nil] at hR
                subst hR
                repeat' (first
                  | (with_reducible first | refine r_seq ?_ | refine r_block ?_ | refine fork_not ?_ | refine fork_and ?_ | refine fork_or ?_ | refine chk_ok (by kernel_rfl) ?_)
                  | ((with_reducible first | refine fork_dec ?_ ?_ | refine fork_eq ?_ ?_ | refine fork_ne ?_ ?_ | refine fork_intro ?_ ?_) <;> intro h <;> try (exfalso; first | omega | exact h rfl | (revert h; decide) | (cases h; done)))
                  | ((with_reducible show False); omega)
                  | ((first | (with_reducible first | refine r_exit ?_ | refine r_skip ?_ | refine r_cond ?_ | refine r_region ?_ | show VX _ _ _ _ _ _ _ | show vstep _ _ _ _ _ | show vskip _ _ _ | show withV _ _) | ((with_reducible show endA _ _ _ _ _ _ _); simp -implicitDefEqProofs only [endA])); simp -dsimp -implicitDefEqProofs (maxSteps := 1000000) (disch := first | omega | (simp only [LN]; omega)) only [go_sem, Int.reduceToNat, Int.reducePow, Nat.reducePow, Int.reduceAdd, Int.reduceMul, Int.reduceSub, Int.reduceNeg, Nat.reduceAdd, Nat.reduceMul, Nat.reduceSub, Nat.reduceEqDiff, Nat.reduceLT, Nat.reduceLeDiff])
                  | ((first | (with_reducible refine r_ret ?_) | (with_reducible refine pick_viewG default (by first | omega | (simp only [LN]; omega)) (by first | omega | (simp only [LN]; omega)) ?_) | (with_reducible refine pick_own default (by first | omega | (simp only [LN]; omega)) ?_) | (with_reducible refine And.intro (by first | decide | omega | assumption | (simp only [LN]; omega)) ?_) | ((with_reducible show pickE _ _ _); first | refine pickE_intro _ ⟨by omega, by rfl⟩ ?_ | refine pickE_intro _ (by rfl) ?_) | fail); try simp -dsimp -implicitDefEqProofs (maxSteps := 1000000) (disch := first | omega | (simp only [LN]; omega)) only [go_sem, Int.reduceToNat, Int.reducePow, Nat.reducePow, Int.reduceAdd, Int.reduceMul, Int.reduceSub, Int.reduceNeg, Nat.reduceAdd, Nat.reduceMul, Nat.reduceSub, Nat.reduceEqDiff, Nat.reduceLT, Nat.reduceLeDiff])
                  | fail)
                all_goals trace_state
              · have ha2 : after.length ≠ 0 := fun h => ha (List.length_eq_zero_iff.1 h)
                repeat' (first
                  | (with_reducible first | refine r_seq ?_ | refine r_block ?_ | refine fork_not ?_ | refine fork_and ?_ | refine fork_or ?_ | refine chk_ok (by kernel_rfl) ?_)
                  | ((with_reducible first | refine fork_dec ?_ ?_ | refine fork_eq ?_ ?_ | refine fork_ne ?_ ?_ | refine fork_intro ?_ ?_) <;> intro h <;> try (exfalso; first | omega | exact h rfl | (revert h; decide) | (cases h; done)))
                  | ((with_reducible show False); omega)
                  | ((first | (with_reducible first | refine r_exit ?_ | refine r_skip ?_ | refine r_cond ?_ | refine r_region ?_ | show VX _ _ _ _ _ _ _ | show vstep _ _ _ _ _ | show vskip _ _ _ | show withV _ _) | ((with_reducible show endA _ _ _ _ _ _ _); simp -implicitDefEqProofs only [endA])); simp -dsimp -implicitDefEqProofs (maxSteps := 1000000) (disch := first | omega | (simp only [LN]; omega)) only [go_sem, Int.reduceToNat, Int.reducePow, Nat.reducePow, Int.reduceAdd, Int.reduceMul, Int.reduceSub, Int.reduceNeg, Nat.reduceAdd, Nat.reduceMul, Nat.reduceSub, Nat.reduceEqDiff, Nat.reduceLT, Nat.reduceLeDiff])
                  | ((first | (with_reducible refine r_ret ?_) | (with_reducible refine pick_viewG default (by first | omega | (simp only [LN]; omega)) (by first | omega | (simp only [LN]; omega)) ?_) | (with_reducible refine pick_own default (by first | omega | (simp only [LN]; omega)) ?_) | (with_reducible refine And.intro (by first | decide | omega | assumption | (simp only [LN]; omega)) ?_) | ((with_reducible show pickE _ _ _); first | refine pickE_intro _ ⟨by omega, by rfl⟩ ?_ | refine pickE_intro _ (by rfl) ?_) | fail); try simp -dsimp -implicitDefEqProofs (maxSteps := 1000000) (disch := first | omega | (simp only [LN]; omega)) only [go_sem, Int.reduceToNat, Int.reducePow, Nat.reducePow, Int.reduceAdd, Int.reduceMul, Int.reduceSub, Int.reduceNeg, Nat.reduceAdd, Nat.reduceMul, Nat.reduceSub, Nat.reduceEqDiff, Nat.reduceLT, Nat.reduceLeDiff])
                  | fail)
                have hm : after.length < (t ++ 10 :: after).length := by omega
                refine loopQ_next (after, zerosM (64 * n), -1, 2, after.length + 1) (.inr ⟨Nat.le_refl _, ha, n, c4, hz, hR, Nat.lt_succ_self _, by dsimp only; omega, by dsimp only; omega, by dsimp only; omega⟩) hm ?_
                simp -dsimp -implicitDefEqProofs (maxSteps := 1000000) (disch := first | omega | (simp only [LN]; omega)) only [go_sem, Int.reduceToNat, Int.reducePow, Nat.reducePow, Int.reduceAdd, Int.reduceMul, Int.reduceSub, Int.reduceNeg, Nat.reduceAdd, Nat.reduceMul, Nat.reduceSub, Nat.reduceEqDiff, Nat.reduceLT, Nat.reduceLeDiff]
                try trivial
            · rw [headN_no hc] at hR
              dsimp only at hR
              subst hR
              repeat' (first
                | (with_reducible first | refine r_seq ?_ | refine r_block ?_ | refine fork_not ?_ | refine fork_and ?_ | refine fork_or ?_ | refine chk_ok (by kernel_rfl) ?_)
                | ((with_reducible first | refine fork_dec ?_ ?_ | refine fork_eq ?_ ?_ | refine fork_ne ?_ ?_ | refine fork_intro ?_ ?_) <;> intro h <;> try (exfalso; first | omega | exact h rfl | (revert h; decide) | (cases h; done)))
                | ((with_reducible show False); omega)
                | ((first | (with_reducible first | refine r_exit ?_ | refine r_skip ?_ | refine r_cond ?_ | refine r_region ?_ | show VX _ _ _ _ _ _ _ | show vstep _ _ _ _ _ | show vskip _ _ _ | show withV _ _) | ((with_reducible show endA _ _ _ _ _ _ _); simp -implicitDefEqProofs only [endA])); simp -dsimp -implicitDefEqProofs (maxSteps := 1000000) (disch := first | omega | (simp only [LN, htl, hb2, htk, hdr]; omega)) only [go_sem, Int.reduceToNat, Int.reducePow, Nat.reducePow, Int.reduceAdd, Int.reduceMul, Int.reduceSub, Int.reduceNeg, Nat.reduceAdd, Nat.reduceMul, Nat.reduceSub, Nat.reduceEqDiff, Nat.reduceLT, Nat.reduceLeDiff, htl, hb2, htk, hdr])
                | ((first | (with_reducible refine r_ret ?_) | (with_reducible refine pick_viewG default (by first | omega | (simp only [LN, htl, hb2, htk, hdr]; omega)) (by first | omega | (simp only [LN, htl, hb2, htk, hdr]; omega)) ?_) | (with_reducible refine pick_own default (by first | omega | (simp only [LN, htl, hb2, htk, hdr]; omega)) ?_) | (with_reducible refine And.intro (by first | decide | omega | assumption | (simp only [LN, htl, hb2, htk, hdr]; omega)) ?_) | ((with_reducible apply callK_pure); (exact k67)) | ((with_reducible apply callF_lend); (exact k67); rfl) | ((with_reducible apply callF_go); (exact k67)) | ((with_reducible show pickE _ _ _); first | refine pickE_intro _ ⟨by omega, by rfl⟩ ?_ | refine pickE_intro _ (by rfl) ?_) | fail); try simp -dsimp -implicitDefEqProofs (maxSteps := 1000000) (disch := first | omega | (simp only [LN, htl, hb2, htk, hdr]; omega)) only [go_sem, Int.reduceToNat, Int.reducePow, Nat.reducePow, Int.reduceAdd, Int.reduceMul, Int.reduceSub, Int.reduceNeg, Nat.reduceAdd, Nat.reduceMul, Nat.reduceSub, Nat.reduceEqDiff, Nat.reduceLT, Nat.reduceLeDiff, htl, hb2, htk, hdr])
                | fail)
              all_goals exact absurd ⟨by assumption, by omega, by omega, by first | omega | (rw [List.take_of_length_le (by rw [List.length_drop]; omega)]; omega)⟩ hc
    · obtain ⟨f, rfl⟩ : ∃ f', f = f' + 1 := ⟨f - 1, by omega⟩
      rw [parF_cons hn] at g1
      rcases cut_spec 10 rest with ⟨gx, gc⟩ | ⟨t, after, rfl, gx, gc⟩
      · rw [gc] at g1
        dsimp only at g1
        subst g1
        repeat' (first
          | (with_reducible first | refine r_seq ?_ | refine r_block ?_ | refine fork_not ?_ | refine fork_and ?_ | refine fork_or ?_ | refine chk_ok (by kernel_rfl) ?_)
          | ((with_reducible first | refine fork_dec ?_ ?_ | refine fork_eq ?_ ?_ | refine fork_ne ?_ ?_ | refine fork_intro ?_ ?_) <;> intro h <;> try (exfalso; first | omega | exact h rfl | (revert h; decide) | (cases h; done)))
          | ((with_reducible show False); omega)
          | ((first | (with_reducible first | refine r_exit ?_ | refine r_skip ?_ | refine r_cond ?_ | refine r_region ?_ | show VX _ _ _ _ _ _ _ | show vstep _ _ _ _ _ | show vskip _ _ _ | show withV _ _) | ((with_reducible show endA _ _ _ _ _ _ _); simp -implicitDefEqProofs only [endA])); simp -dsimp -implicitDefEqProofs (maxSteps := 1000000) (disch := first | omega | (simp only [LN]; omega)) only [go_sem, Int.reduceToNat, Int.reducePow, Nat.reducePow, Int.reduceAdd, Int.reduceMul, Int.reduceSub, Int.reduceNeg, Nat.reduceAdd, Nat.reduceMul, Nat.reduceSub, Nat.reduceEqDiff, Nat.reduceLT, Nat.reduceLeDiff])
          | ((first | (with_reducible refine r_ret ?_) | (with_reducible refine pick_viewG default (by first | omega | (simp only [LN]; omega)) (by first | omega | (simp only [LN]; omega)) ?_) | (with_reducible refine pick_own default (by first | omega | (simp only [LN]; omega)) ?_) | (with_reducible refine And.intro (by first | decide | omega | assumption | (simp only [LN]; omega)) ?_) | ((with_reducible show pickE _ _ _); first | refine pickE_intro _ ⟨by omega, by rfl⟩ ?_ | refine pickE_intro _ (by rfl) ?_) | fail); try simp -dsimp -implicitDefEqProofs (maxSteps := 1000000) (disch := first | omega | (simp only [LN]; omega)) only [go_sem, Int.reduceToNat, Int.reducePow, Nat.reducePow, Int.reduceAdd, Int.reduceMul, Int.reduceSub, Int.reduceNeg, Nat.reduceAdd, Nat.reduceMul, Nat.reduceSub, Nat.reduceEqDiff, Nat.reduceLT, Nat.reduceLeDiff])
          | fail)
        refine r_loopA (α := Nat) [0, 5, 6, 7] (fun e b => [(8, aI e)]) (fun e b => []) (fun e => []) (fun e => e ≤ rest.length) (fun e => rest.length - e) (0) ?h0_4 ?hs0_4 ?I_4 ?hI_4 ?round_4
        case hI_4 => intro x; (simp -dsimp -implicitDefEqProofs (maxSteps := 1000000) (disch := first | omega | (simp only [LN]; omega)) only [go_sem, Int.reduceToNat, Int.reducePow, Nat.reducePow, Int.reduceAdd, Int.reduceMul, Int.reduceSub, Int.reduceNeg, Nat.reduceAdd, Nat.reduceMul, Nat.reduceSub, Nat.reduceEqDiff, Nat.reduceLT, Nat.reduceLeDiff]) <;> exact rfl
        case hs0_4 => refine wk_auto ?_; (simp -dsimp -implicitDefEqProofs (maxSteps := 1000000) (disch := first | omega | (simp only [LN]; omega)) only [go_sem, Int.reduceToNat, Int.reducePow, Nat.reducePow, Int.reduceAdd, Int.reduceMul, Int.reduceSub, Int.reduceNeg, Nat.reduceAdd, Nat.reduceMul, Nat.reduceSub, Nat.reduceEqDiff, Nat.reduceLT, Nat.reduceLeDiff]) <;> (try omega)
        case h0_4 => exact Nat.zero_le _
        case round_4 =>
          intro e he
          by_cases hel : e < rest.length
          · have hb := nl_at gx hel
            repeat' (first
              | (with_reducible first | refine r_seq ?_ | refine r_block ?_ | refine fork_not ?_ | refine fork_and ?_ | refine fork_or ?_ | refine chk_ok (by kernel_rfl) ?_)
              | ((with_reducible first | refine fork_dec ?_ ?_ | refine fork_eq ?_ ?_ | refine fork_ne ?_ ?_ | refine fork_intro ?_ ?_) <;> intro h <;> try (exfalso; first | omega | exact h rfl | (revert h; decide) | (cases h; done)))
              | ((with_reducible show False); omega)
              | ((first | (with_reducible first | refine r_exit ?_ | refine r_skip ?_ | refine r_cond ?_ | refine r_region ?_ | show VX _ _ _ _ _ _ _ | show vstep _ _ _ _ _ | show vskip _ _ _ | show withV _ _) | ((with_reducible show endA _ _ _ _ _ _ _); simp -implicitDefEqProofs only [endA])); simp -dsimp -implicitDefEqProofs (maxSteps := 1000000) (disch := first | omega | (simp only [LN]; omega)) only [go_sem, Int.reduceToNat, Int.reducePow, Nat.reducePow, Int.reduceAdd, Int.reduceMul, Int.reduceSub, Int.reduceNeg, Nat.reduceAdd, Nat.reduceMul, Nat.reduceSub, Nat.reduceEqDiff, Nat.reduceLT, Nat.reduceLeDiff])
              | ((first | (with_reducible refine r_ret ?_) | (with_reducible refine pick_viewG default (by first | omega | (simp only [LN]; omega)) (by first | omega | (simp only [LN]; omega)) ?_) | (with_reducible refine pick_own default (by first | omega | (simp only [LN]; omega)) ?_) | (with_reducible refine And.intro (by first | decide | omega | assumption | (simp only [LN]; omega)) ?_) | ((with_reducible show pickE _ _ _); first | refine pickE_intro _ ⟨by omega, by rfl⟩ ?_ | refine pickE_intro _ (by rfl) ?_) | fail); try simp -dsimp -implicitDefEqProofs (maxSteps := 1000000) (disch := first | omega | (simp only [LN]; omega)) only [go_sem, Int.reduceToNat, Int.reducePow, Nat.reducePow, Int.reduceAdd, Int.reduceMul, Int.reduceSub, Int.reduceNeg, Nat.reduceAdd, Nat.reduceMul, Nat.reduceSub, Nat.reduceEqDiff, Nat.reduceLT, Nat.reduceLeDiff])
              | fail)
            (refine loopQ_next (e + 1) ?_ ?_ ?_; (omega); (show _ < _; omega); (simp -dsimp -implicitDefEqProofs (maxSteps := 1000000) (disch := first | omega | (simp only [LN]; omega)) only [go_sem, Int.reduceToNat, Int.reducePow, Nat.reducePow, Int.reduceAdd, Int.reduceMul, Int.reduceSub, Int.reduceNeg, Nat.reduceAdd, Nat.reduceMul, Nat.reduceSub, Nat.reduceEqDiff, Nat.reduceLT, Nat.reduceLeDiff]; try trivial))
          · repeat' (first
              | (with_reducible first | refine r_seq ?_ | refine r_block ?_ | refine fork_not ?_ | refine fork_and ?_ | refine fork_or ?_ | refine chk_ok (by kernel_rfl) ?_)
              | ((with_reducible first | refine fork_dec ?_ ?_ | refine fork_eq ?_ ?_ | refine fork_ne ?_ ?_ | refine fork_intro ?_ ?_) <;> intro h <;> try (exfalso; first | omega | exact h rfl | (revert h; decide) | (cases h; done)))
              | ((with_reducible show False); omega)
              | ((first | (with_reducible first | refine r_exit ?_ | refine r_skip ?_ | refine r_cond ?_ | refine r_region ?_ | show VX _ _ _ _ _ _ _ | show vstep _ _ _ _ _ | show vskip _ _ _ | show withV _ _) | ((with_reducible show endA _ _ _ _ _ _ _); simp -implicitDefEqProofs only [endA])); simp -dsimp -implicitDefEqProofs (maxSteps := 1000000) (disch := first | omega | (simp only [LN]; omega)) only [go_sem, Int.reduceToNat, Int.reducePow, Nat.reducePow, Int.reduceAdd, Int.reduceMul, Int.reduceSub, Int.reduceNeg, Nat.reduceAdd, Nat.reduceMul, Nat.reduceSub, Nat.reduceEqDiff, Nat.reduceLT, Nat.reduceLeDiff])
              | ((first | (with_reducible refine r_ret ?_) | (with_reducible refine pick_viewG default (by first | omega | (simp only [LN]; omega)) (by first | omega | (simp only [LN]; omega)) ?_) | (with_reducible refine pick_own default (by first | omega | (simp only [LN]; omega)) ?_) | (with_reducible refine And.intro (by first | decide | omega | assumption | (simp only [LN]; omega)) ?_) | ((with_reducible show pickE _ _ _); first | refine pickE_intro _ ⟨by omega, by rfl⟩ ?_ | refine pickE_intro _ (by rfl) ?_) | fail); try simp -dsimp -implicitDefEqProofs (maxSteps := 1000000) (disch := first | omega | (simp only [LN]; omega)) only [go_sem, Int.reduceToNat, Int.reducePow, Nat.reducePow, Int.reduceAdd, Int.reduceMul, Int.reduceSub, Int.reduceNeg, Nat.reduceAdd, Nat.reduceMul, Nat.reduceSub, Nat.reduceEqDiff, Nat.reduceLT, Nat.reduceLeDiff])
              | fail)
            all_goals trace_state
      · rw [gc] at g1
        dsimp only at g1
        have hlt : t.length + after.length < 100002 := by rw [List.length_append, List.length_cons] at g4; omega
        have htl : (t ++ 10 :: after).length = t.length + after.length + 1 := by rw [List.length_append, List.length_cons]; omega
        have htk : List.take t.length (t ++ 10 :: after) = t := List.take_left
        have hdr : List.drop (t.length + 1) (t ++ 10 :: after) = after := by rw [show t ++ 10 :: after = (t ++ [10]) ++ after by simp, List.drop_left' (by simp)]
        repeat' (first
          | (with_reducible first | refine r_seq ?_ | refine r_block ?_ | refine fork_not ?_ | refine fork_and ?_ | refine fork_or ?_ | refine chk_ok (by kernel_rfl) ?_)
          | ((with_reducible first | refine fork_dec ?_ ?_ | refine fork_eq ?_ ?_ | refine fork_ne ?_ ?_ | refine fork_intro ?_ ?_) <;> intro h <;> try (exfalso; first | omega | exact h rfl | (revert h; decide) | (cases h; done)))
          | ((with_reducible show False); omega)
          | ((first | (with_reducible first | refine r_exit ?_ | refine r_skip ?_ | refine r_cond ?_ | refine r_region ?_ | show VX _ _ _ _ _ _ _ | show vstep _ _ _ _ _ | show vskip _ _ _ | show withV _ _) | ((with_reducible show endA _ _ _ _ _ _ _); simp -implicitDefEqProofs only [endA])); simp -dsimp -implicitDefEqProofs (maxSteps := 1000000) (disch := first | omega | (simp only [LN]; omega)) only [go_sem, Int.reduceToNat, Int.reducePow, Nat.reducePow, Int.reduceAdd, Int.reduceMul, Int.reduceSub, Int.reduceNeg, Nat.reduceAdd, Nat.reduceMul, Nat.reduceSub, Nat.reduceEqDiff, Nat.reduceLT, Nat.reduceLeDiff])
          | ((first | (with_reducible refine r_ret ?_) | (with_reducible refine pick_viewG default (by first | omega | (simp only [LN]; omega)) (by first | omega | (simp only [LN]; omega)) ?_) | (with_reducible refine pick_own default (by first | omega | (simp only [LN]; omega)) ?_) | (with_reducible refine And.intro (by first | decide | omega | assumption | (simp only [LN]; omega)) ?_) | ((with_reducible show pickE _ _ _); first | refine pickE_intro _ ⟨by omega, by rfl⟩ ?_ | refine pickE_intro _ (by rfl) ?_) | fail); try simp -dsimp -implicitDefEqProofs (maxSteps := 1000000) (disch := first | omega | (simp only [LN]; omega)) only [go_sem, Int.reduceToNat, Int.reducePow, Nat.reducePow, Int.reduceAdd, Int.reduceMul, Int.reduceSub, Int.reduceNeg, Nat.reduceAdd, Nat.reduceMul, Nat.reduceSub, Nat.reduceEqDiff, Nat.reduceLT, Nat.reduceLeDiff])
          | fail)
        refine r_loopA (α := Nat) [0, 5, 6, 7] (fun e b => [(8, aI e)]) (fun e b => []) (fun e => []) (fun e => e ≤ t.length) (fun e => t.length - e) (0) ?h0_5 ?hs0_5 ?I_5 ?hI_5 ?round_5
        case hI_5 => intro x; (simp -dsimp -implicitDefEqProofs (maxSteps := 1000000) (disch := first | omega | (simp only [LN]; omega)) only [go_sem, Int.reduceToNat, Int.reducePow, Nat.reducePow, Int.reduceAdd, Int.reduceMul, Int.reduceSub, Int.reduceNeg, Nat.reduceAdd, Nat.reduceMul, Nat.reduceSub, Nat.reduceEqDiff, Nat.reduceLT, Nat.reduceLeDiff]) <;> exact rfl
        case hs0_5 => refine wk_auto ?_; (simp -dsimp -implicitDefEqProofs (maxSteps := 1000000) (disch := first | omega | (simp only [LN]; omega)) only [go_sem, Int.reduceToNat, Int.reducePow, Nat.reducePow, Int.reduceAdd, Int.reduceMul, Int.reduceSub, Int.reduceNeg, Nat.reduceAdd, Nat.reduceMul, Nat.reduceSub, Nat.reduceEqDiff, Nat.reduceLT, Nat.reduceLeDiff]) <;> (try omega)
        case h0_5 => exact Nat.zero_le _
        case round_5 =>
          intro e he
          by_cases hel : e < t.length
          · have hb := nl_at gx hel
            have hb2 : (t ++ 10 :: after).getD e 0 = t.getD e 0 := getD_left hel
            repeat' (first
              | (with_reducible first | refine r_seq ?_ | refine r_block ?_ | refine fork_not ?_ | refine fork_and ?_ | refine fork_or ?_ | refine chk_ok (by kernel_rfl) ?_)
              | ((with_reducible first | refine fork_dec ?_ ?_ | refine fork_eq ?_ ?_ | refine fork_ne ?_ ?_ | refine fork_intro ?_ ?_) <;> intro h <;> try (exfalso; first | omega | exact h rfl | (revert h; decide) | (cases h; done)))
              | ((with_reducible show False); omega)
              | ((first | (with_reducible first | refine r_exit ?_ | refine r_skip ?_ | refine r_cond ?_ | refine r_region ?_ | show VX _ _ _ _ _ _ _ | show vstep _ _ _ _ _ | show vskip _ _ _ | show withV _ _) | ((with_reducible show endA _ _ _ _ _ _ _); simp -implicitDefEqProofs only [endA])); simp -dsimp -implicitDefEqProofs (maxSteps := 1000000) (disch := first | omega | (simp only [LN, htl, hb2]; omega)) only [go_sem, Int.reduceToNat, Int.reducePow, Nat.reducePow, Int.reduceAdd, Int.reduceMul, Int.reduceSub, Int.reduceNeg, Nat.reduceAdd, Nat.reduceMul, Nat.reduceSub, Nat.reduceEqDiff, Nat.reduceLT, Nat.reduceLeDiff, htl, hb2])
              | ((first | (with_reducible refine r_ret ?_) | (with_reducible refine pick_viewG default (by first | omega | (simp only [LN, htl, hb2]; omega)) (by first | omega | (simp only [LN, htl, hb2]; omega)) ?_) | (with_reducible refine pick_own default (by first | omega | (simp only [LN, htl, hb2]; omega)) ?_) | (with_reducible refine And.intro (by first | decide | omega | assumption | (simp only [LN, htl, hb2]; omega)) ?_) | ((with_reducible show pickE _ _ _); first | refine pickE_intro _ ⟨by omega, by rfl⟩ ?_ | refine pickE_intro _ (by rfl) ?_) | fail); try simp -dsimp -implicitDefEqProofs (maxSteps := 1000000) (disch := first | omega | (simp only [LN, htl, hb2]; omega)) only [go_sem, Int.reduceToNat, Int.reducePow, Nat.reducePow, Int.reduceAdd, Int.reduceMul, Int.reduceSub, Int.reduceNeg, Nat.reduceAdd, Nat.reduceMul, Nat.reduceSub, Nat.reduceEqDiff, Nat.reduceLT, Nat.reduceLeDiff, htl, hb2])
              | fail)
            (refine loopQ_next (e + 1) ?_ ?_ ?_; (omega); (show _ < _; omega); (simp -dsimp -implicitDefEqProofs (maxSteps := 1000000) (disch := first | omega | (simp only [LN]; omega)) only [go_sem, Int.reduceToNat, Int.reducePow, Nat.reducePow, Int.reduceAdd, Int.reduceMul, Int.reduceSub, Int.reduceNeg, Nat.reduceAdd, Nat.reduceMul, Nat.reduceSub, Nat.reduceEqDiff, Nat.reduceLT, Nat.reduceLeDiff]; try trivial))
          · obtain rfl : e = t.length := by omega
            have hb2 : (t ++ 10 :: after).getD t.length 0 = 10 := by rw [getD_right (Nat.le_refl _), Nat.sub_self]; rfl
            have k67 := c67 t (by omega)
            have hdk := digK_le t
            have hvk := digK_val t
            by_cases hc : digK t ≠ 0 ∧ t.length = digK t + 137 ∧ t.getD (digK t) 0 = 58 ∧ valA 0 (t.take (digK t)) < L ∧ prev < valA 0 (t.take (digK t))
            · obtain ⟨c1, c2, c3, c4, c5⟩ := hc
              have hls := lnS_bwd c1 c2 c3 (by omega)
              generalize valA 0 (t.take (digK t)) = n at *
              have hr : (t.drop (digK t + 1)).length = 136 := by rw [List.length_drop]; omega
              have hdd : ∀ j, List.drop (digK t + 1 + 17 * j) t = List.drop (17 * j) (t.drop (digK t + 1)) := fun j => by rw [List.drop_drop]
              generalize digK t = k at *
              have c3' : ((t.getD k 0).toNat : Int) = 58 := by rw [c3]; rfl
              repeat' (first
                | (with_reducible first | refine r_seq ?_ | refine r_block ?_ | refine fork_not ?_ | refine fork_and ?_ | refine fork_or ?_ | refine chk_ok (by kernel_rfl) ?_)
                | ((with_reducible first | refine fork_dec ?_ ?_ | refine fork_eq ?_ ?_ | refine fork_ne ?_ ?_ | refine fork_intro ?_ ?_) <;> intro h <;> try (exfalso; first | omega | exact h rfl | (revert h; decide) | (cases h; done)))
                | ((with_reducible show False); omega)
                | ((first | (with_reducible first | refine r_exit ?_ | refine r_skip ?_ | refine r_cond ?_ | refine r_region ?_ | show VX _ _ _ _ _ _ _ | show vstep _ _ _ _ _ | show vskip _ _ _ | show withV _ _) | ((with_reducible show endA _ _ _ _ _ _ _); simp -implicitDefEqProofs only [endA])); simp -dsimp -implicitDefEqProofs (maxSteps := 1000000) (disch := first | omega | (simp only [LN, htl, hb2, htk, hdr]; omega)) only [go_sem, Int.reduceToNat, Int.reducePow, Nat.reducePow, Int.reduceAdd, Int.reduceMul, Int.reduceSub, Int.reduceNeg, Nat.reduceAdd, Nat.reduceMul, Nat.reduceSub, Nat.reduceEqDiff, Nat.reduceLT, Nat.reduceLeDiff, htl, hb2, htk, hdr])
                | ((first | (with_reducible refine r_ret ?_) | (with_reducible refine pick_viewG default (by first | omega | (simp only [LN, htl, hb2, htk, hdr]; omega)) (by first | omega | (simp only [LN, htl, hb2, htk, hdr]; omega)) ?_) | (with_reducible refine pick_own default (by first | omega | (simp only [LN, htl, hb2, htk, hdr]; omega)) ?_) | (with_reducible refine And.intro (by first | decide | omega | assumption | (simp only [LN, htl, hb2, htk, hdr]; omega)) ?_) | ((with_reducible apply callK_pure); (exact k67)) | ((with_reducible apply callF_lend); (exact k67); rfl) | ((with_reducible apply callF_go); (exact k67)) | ((with_reducible show pickE _ _ _); first | refine pickE_intro _ ⟨by omega, by rfl⟩ ?_ | refine pickE_intro _ (by rfl) ?_) | fail); try simp -dsimp -implicitDefEqProofs (maxSteps := 1000000) (disch := first | omega | (simp only [LN, htl, hb2, htk, hdr]; omega)) only [go_sem, Int.reduceToNat, Int.reducePow, Nat.reducePow, Int.reduceAdd, Int.reduceMul, Int.reduceSub, Int.reduceNeg, Nat.reduceAdd, Nat.reduceMul, Nat.reduceSub, Nat.reduceEqDiff, Nat.reduceLT, Nat.reduceLeDiff, htl, hb2, htk, hdr])
                | fail)
              generalize t.drop (k + 1) = r at *
              refine r_loopA (α := Nat) [0, 6, 9, 12, 13] (fun j b => [(5, .p (.view 1 ((putR p n r j).map eB))), (14, .p (.v (.bool (anyK r j)))), (15, aI j)]) (fun j b => []) (fun j => []) (fun j => j ≤ 8 ∧ ∀ i, i < j → partOk r i = true) (fun j => 8 - j) (0) ?h0_6 ?hs0_6 ?I_6 ?hI_6 ?round_6
              case hI_6 => intro x; (simp -dsimp -implicitDefEqProofs (maxSteps := 1000000) (disch := first | omega | (simp only [LN]; omega)) only [go_sem, Int.reduceToNat, Int.reducePow, Nat.reducePow, Int.reduceAdd, Int.reduceMul, Int.reduceSub, Int.reduceNeg, Nat.reduceAdd, Nat.reduceMul, Nat.reduceSub, Nat.reduceEqDiff, Nat.reduceLT, Nat.reduceLeDiff]) <;> exact rfl
              case hs0_6 => refine wk_auto ?_; (simp -dsimp -implicitDefEqProofs (maxSteps := 1000000) (disch := first | omega | (simp only [LN, putR_0, anyK_0]; omega)) only [go_sem, Int.reduceToNat, Int.reducePow, Nat.reducePow, Int.reduceAdd, Int.reduceMul, Int.reduceSub, Int.reduceNeg, Nat.reduceAdd, Nat.reduceMul, Nat.reduceSub, Nat.reduceEqDiff, Nat.reduceLT, Nat.reduceLeDiff, putR_0, anyK_0]) <;> (try omega)
              case h0_6 => exact ⟨Nat.zero_le _, fun i hi => absurd hi (by omega)⟩
              case round_6 =>
                rintro j ⟨hj, hok⟩
                have hpl := putR_len p n r j
                have hv1 := partV_lt r j
                by_cases hj8 : j < 8
                · have k68 := c68p r j hr hj8
                  have e1 : ((k : Int) + 1 + 17 * (j : Int)).toNat = k + 1 + 17 * j := by omega
                  have e2 : ((k : Int) + 18 + 17 * (j : Int)).toNat = k + 18 + 17 * j := by omega
                  have e3 : k + 18 + 17 * j - (k + 1 + 17 * j) = 17 := by omega
                  have e4 := part_0 r j
                  have e5 := hdd j
                  have e6 : IntKind.u64.wrap (64 * (n : Int) + 8 * (j : Int)) = ((n * 64 + j * 8 : Nat) : Int) := by rw [wr64]; omega
                  have k28 := c28 (putR p n r j) (n * 64 + j * 8) (partV r j) (by omega) (by omega) (by omega)
                  rw [← putR_s] at k28
                  cases hp : partOk r j with
                  | true =>
                    obtain ⟨p1, p2⟩ := part_iff.1 hp
                    have p1' : ((r.getD (17 * j) 0).toNat : Int) = 32 := by rw [p1]; rfl
                    rw [p2] at k68
                    have hok2 : ∀ i, i < j + 1 → partOk r i = true := fun i hi => by
                      rcases Nat.lt_or_ge i j with h4 | h4
                      · exact hok i h4
                      · obtain rfl : i = j := by omega
                        exact hp
                    repeat' (first
                      | (with_reducible first | refine r_seq ?_ | refine r_block ?_ | refine fork_not ?_ | refine fork_and ?_ | refine fork_or ?_ | refine chk_ok (by kernel_rfl) ?_)
                      | ((with_reducible first | refine fork_dec ?_ ?_ | refine fork_eq ?_ ?_ | refine fork_ne ?_ ?_ | refine fork_intro ?_ ?_) <;> intro h <;> try (exfalso; first | omega | exact h rfl | (revert h; decide) | (cases h; done)))
                      | ((with_reducible show False); omega)
                      | ((first | (with_reducible first | refine r_exit ?_ | refine r_skip ?_ | refine r_cond ?_ | refine r_region ?_ | show VX _ _ _ _ _ _ _ | show vstep _ _ _ _ _ | show vskip _ _ _ | show withV _ _) | ((with_reducible show endA _ _ _ _ _ _ _); simp -implicitDefEqProofs only [endA])); simp -dsimp -implicitDefEqProofs (maxSteps := 1000000) (disch := first | omega | (simp only [LN, e1, e2, e3, e4, e5, e6]; omega)) only [go_sem, Int.reduceToNat, Int.reducePow, Nat.reducePow, Int.reduceAdd, Int.reduceMul, Int.reduceSub, Int.reduceNeg, Nat.reduceAdd, Nat.reduceMul, Nat.reduceSub, Nat.reduceEqDiff, Nat.reduceLT, Nat.reduceLeDiff, e1, e2, e3, e4, e5, e6])
                      | ((first | (with_reducible refine r_ret ?_) | (with_reducible refine pick_viewG default (by first | omega | (simp only [LN, e1, e2, e3, e4, e5, e6]; omega)) (by first | omega | (simp only [LN, e1, e2, e3, e4, e5, e6]; omega)) ?_) | (with_reducible refine pick_own default (by first | omega | (simp only [LN, e1, e2, e3, e4, e5, e6]; omega)) ?_) | (with_reducible refine And.intro (by first | decide | omega | assumption | (simp only [LN, e1, e2, e3, e4, e5, e6]; omega)) ?_) | ((with_reducible apply callK_pure); (first | exact k68 | exact k28 | fail)) | ((with_reducible apply callF_lend); (first | exact k68 | exact k28 | fail); rfl) | ((with_reducible apply callF_go); (first | exact k68 | exact k28 | fail)) | ((with_reducible show pickE _ _ _); first | refine pickE_intro _ ⟨by omega, by rfl⟩ ?_ | refine pickE_intro _ (by rfl) ?_) | fail); try simp -dsimp -implicitDefEqProofs (maxSteps := 1000000) (disch := first | omega | (simp only [LN, e1, e2, e3, e4, e5, e6]; omega)) only [go_sem, Int.reduceToNat, Int.reducePow, Nat.reducePow, Int.reduceAdd, Int.reduceMul, Int.reduceSub, Int.reduceNeg, Nat.reduceAdd, Nat.reduceMul, Nat.reduceSub, Nat.reduceEqDiff, Nat.reduceLT, Nat.reduceLeDiff, e1, e2, e3, e4, e5, e6])
                      | fail)
                    · have e9 : anyK r (j + 1) = true := by rw [anyK_s, h]; rfl
                      (refine loopQ_next (j + 1) ?_ ?_ ?_; (exact ⟨by omega, hok2⟩); (show _ < _; omega); (simp -dsimp -implicitDefEqProofs (maxSteps := 1000000) (disch := first | omega | (simp only [LN, e9, h]; omega)) only [go_sem, Int.reduceToNat, Int.reducePow, Nat.reducePow, Int.reduceAdd, Int.reduceMul, Int.reduceSub, Int.reduceNeg, Nat.reduceAdd, Nat.reduceMul, Nat.reduceSub, Nat.reduceEqDiff, Nat.reduceLT, Nat.reduceLeDiff, e9, h]; try trivial))
                    · have e9 := anyK_s r j
                      rw [h, Bool.false_or] at e9
                      have e10 : (((partV r j : Nat) : Int) != 0) = decide (partV r j ≠ 0) := by
                        by_cases hz : partV r j = 0
                        · rw [hz]; rfl
                        · rw [decide_eq_true hz]; simpa using hz
                      (refine loopQ_next (j + 1) ?_ ?_ ?_; (exact ⟨by omega, hok2⟩); (show _ < _; omega); (simp -dsimp -implicitDefEqProofs (maxSteps := 1000000) (disch := first | omega | (simp only [LN, e9, e10]; omega)) only [go_sem, Int.reduceToNat, Int.reducePow, Nat.reducePow, Int.reduceAdd, Int.reduceMul, Int.reduceSub, Int.reduceNeg, Nat.reduceAdd, Nat.reduceMul, Nat.reduceSub, Nat.reduceEqDiff, Nat.reduceLT, Nat.reduceLeDiff, e9, e10]; try trivial))
                  | false =>
                    have hno : goodL L prev t = none := goodL_no fun n' r' e' hh => by
                      rw [hls] at e'
                      simp only [Option.some.injEq, Prod.mk.injEq] at e'
                      obtain ⟨rfl, rfl⟩ := e'
                      rw [allOk_iff.1 hh.1 j hj8] at hp; cases hp
                    rw [hno] at g1
                    dsimp only at g1
                    subst g1
                    repeat' (first
                      | (with_reducible first | refine r_seq ?_ | refine r_block ?_ | refine fork_not ?_ | refine fork_and ?_ | refine fork_or ?_ | refine chk_ok (by kernel_rfl) ?_)
                      | ((with_reducible first | refine fork_dec ?_ ?_ | refine fork_eq ?_ ?_ | refine fork_ne ?_ ?_ | refine fork_intro ?_ ?_) <;> intro h <;> try (exfalso; first | omega | exact h rfl | (revert h; decide) | (cases h; done)))
                      | ((with_reducible show False); omega)
                      | ((first | (with_reducible first | refine r_exit ?_ | refine r_skip ?_ | refine r_cond ?_ | refine r_region ?_ | show VX _ _ _ _ _ _ _ | show vstep _ _ _ _ _ | show vskip _ _ _ | show withV _ _) | ((with_reducible show endA _ _ _ _ _ _ _); simp -implicitDefEqProofs only [endA])); simp -dsimp -implicitDefEqProofs (maxSteps := 1000000) (disch := first | omega | (simp only [LN, e1, e2, e3, e4, e5, e6]; omega)) only [go_sem, Int.reduceToNat, Int.reducePow, Nat.reducePow, Int.reduceAdd, Int.reduceMul, Int.reduceSub, Int.reduceNeg, Nat.reduceAdd, Nat.reduceMul, Nat.reduceSub, Nat.reduceEqDiff, Nat.reduceLT, Nat.reduceLeDiff, e1, e2, e3, e4, e5, e6])
                      | ((first | (with_reducible refine r_ret ?_) | (with_reducible refine pick_viewG default (by first | omega | (simp only [LN, e1, e2, e3, e4, e5, e6]; omega)) (by first | omega | (simp only [LN, e1, e2, e3, e4, e5, e6]; omega)) ?_) | (with_reducible refine pick_own default (by first | omega | (simp only [LN, e1, e2, e3, e4, e5, e6]; omega)) ?_) | (with_reducible refine And.intro (by first | decide | omega | assumption | (simp only [LN, e1, e2, e3, e4, e5, e6]; omega)) ?_) | ((with_reducible apply callK_pure); (first | exact k68 | exact k28 | fail)) | ((with_reducible apply callF_lend); (first | exact k68 | exact k28 | fail); rfl) | ((with_reducible apply callF_go); (first | exact k68 | exact k28 | fail)) | ((with_reducible show pickE _ _ _); first | refine pickE_intro _ ⟨by omega, by rfl⟩ ?_ | refine pickE_intro _ (by rfl) ?_) | fail); try simp -dsimp -implicitDefEqProofs (maxSteps := 1000000) (disch := first | omega | (simp only [LN, e1, e2, e3, e4, e5, e6]; omega)) only [go_sem, Int.reduceToNat, Int.reducePow, Nat.reducePow, Int.reduceAdd, Int.reduceMul, Int.reduceSub, Int.reduceNeg, Nat.reduceAdd, Nat.reduceMul, Nat.reduceSub, Nat.reduceEqDiff, Nat.reduceLT, Nat.reduceLeDiff, e1, e2, e3, e4, e5, e6])
                      | fail)
                    all_goals (have q := part_iff.2 ⟨u32'.1 (by assumption), by assumption⟩; rw [hp] at q; exact absurd q (by decide))
                · obtain rfl : j = 8 := by omega
                  have hall := allOk_iff.2 hok
                  cases hany : anyN r with
                  | true =>
                    rw [goodL_yes hls ⟨hall, c4, c5, hany⟩] at g1
                    dsimp only at g1
                    have hany2 : anyK r 8 = true := hany
                    by_cases ha : after = []
                    · subst ha
                      rw [parF_nil] at g1
                      subst g1
                      repeat' (first
                        | (with_reducible first | refine r_seq ?_ | refine r_block ?_ | refine fork_not ?_ | refine fork_and ?_ | refine fork_or ?_ | refine chk_ok (by kernel_rfl) ?_)
                        | ((with_reducible first | refine fork_dec ?_ ?_ | refine fork_eq ?_ ?_ | refine fork_ne ?_ ?_ | refine fork_intro ?_ ?_) <;> intro h <;> try (exfalso; first | omega | exact h rfl | (revert h; decide) | (cases h; done)))
                        | ((with_reducible show False); omega)
                        | ((first | (with_reducible first | refine r_exit ?_ | refine r_skip ?_ | refine r_cond ?_ | refine r_region ?_ | show VX _ _ _ _ _ _ _ | show vstep _ _ _ _ _ | show vskip _ _ _ | show withV _ _) | ((with_reducible show endA _ _ _ _ _ _ _); simp -implicitDefEqProofs only [endA])); simp -dsimp -implicitDefEqProofs (maxSteps := 1000000) (disch := first | omega | (simp only [LN, hany2]; omega)) only [go_sem, Int.reduceToNat, Int.reducePow, Nat.reducePow, Int.reduceAdd, Int.reduceMul, Int.reduceSub, Int.reduceNeg, Nat.reduceAdd, Nat.reduceMul, Nat.reduceSub, Nat.reduceEqDiff, Nat.reduceLT, Nat.reduceLeDiff, hany2])
                        | ((first | (with_reducible refine r_ret ?_) | (with_reducible refine pick_viewG default (by first | omega | (simp only [LN, hany2]; omega)) (by first | omega | (simp only [LN, hany2]; omega)) ?_) | (with_reducible refine pick_own default (by first | omega | (simp only [LN, hany2]; omega)) ?_) | (with_reducible refine And.intro (by first | decide | omega | assumption | (simp only [LN, hany2]; omega)) ?_) | ((with_reducible show pickE _ _ _); first | refine pickE_intro _ ⟨by omega, by rfl⟩ ?_ | refine pickE_intro _ (by rfl) ?_) | fail); try simp -dsimp -implicitDefEqProofs (maxSteps := 1000000) (disch := first | omega | (simp only [LN, hany2]; omega)) only [go_sem, Int.reduceToNat, Int.reducePow, Nat.reducePow, Int.reduceAdd, Int.reduceMul, Int.reduceSub, Int.reduceNeg, Nat.reduceAdd, Nat.reduceMul, Nat.reduceSub, Nat.reduceEqDiff, Nat.reduceLT, Nat.reduceLeDiff, hany2])
                        | fail)
                      all_goals trace_state
                    · have ha2 : after.length ≠ 0 := fun h => ha (List.length_eq_zero_iff.1 h)
                      repeat' (first
                        | (with_reducible first | refine r_seq ?_ | refine r_block ?_ | refine fork_not ?_ | refine fork_and ?_ | refine fork_or ?_ | refine chk_ok (by kernel_rfl) ?_)
                        | ((with_reducible first | refine fork_dec ?_ ?_ | refine fork_eq ?_ ?_ | refine fork_ne ?_ ?_ | refine fork_intro ?_ ?_) <;> intro h <;> try (exfalso; first | omega | exact h rfl | (revert h; decide) | (cases h; done)))
                        | ((with_reducible show False); omega)
                        | ((first | (with_reducible first | refine r_exit ?_ | refine r_skip ?_ | refine r_cond ?_ | refine r_region ?_ | show VX _ _ _ _ _ _ _ | show vstep _ _ _ _ _ | show vskip _ _ _ | show withV _ _) | ((with_reducible show endA _ _ _ _ _ _ _); simp -implicitDefEqProofs only [endA])); simp -dsimp -implicitDefEqProofs (maxSteps := 1000000) (disch := first | omega | (simp only [LN, hany2]; omega)) only [go_sem, Int.reduceToNat, Int.reducePow, Nat.reducePow, Int.reduceAdd, Int.reduceMul, Int.reduceSub, Int.reduceNeg, Nat.reduceAdd, Nat.reduceMul, Nat.reduceSub, Nat.reduceEqDiff, Nat.reduceLT, Nat.reduceLeDiff, hany2])
                        | ((first | (with_reducible refine r_ret ?_) | (with_reducible refine pick_viewG default (by first | omega | (simp only [LN, hany2]; omega)) (by first | omega | (simp only [LN, hany2]; omega)) ?_) | (with_reducible refine pick_own default (by first | omega | (simp only [LN, hany2]; omega)) ?_) | (with_reducible refine And.intro (by first | decide | omega | assumption | (simp only [LN, hany2]; omega)) ?_) | ((with_reducible show pickE _ _ _); first | refine pickE_intro _ ⟨by omega, by rfl⟩ ?_ | refine pickE_intro _ (by rfl) ?_) | fail); try simp -dsimp -implicitDefEqProofs (maxSteps := 1000000) (disch := first | omega | (simp only [LN, hany2]; omega)) only [go_sem, Int.reduceToNat, Int.reducePow, Nat.reducePow, Int.reduceAdd, Int.reduceMul, Int.reduceSub, Int.reduceNeg, Nat.reduceAdd, Nat.reduceMul, Nat.reduceSub, Nat.reduceEqDiff, Nat.reduceLT, Nat.reduceLeDiff, hany2])
                        | fail)
                      have hm : after.length < (t ++ 10 :: after).length := by omega
                      refine loopQ_next (after, putR p n r 8, (n : Int), at' + 1, f) (.inr ⟨by dsimp only; omega, ha, L, hL, by rw [putR_len]; exact g3, g1, by rw [htl] at g2; dsimp only; omega, by rw [htl] at g4; dsimp only; omega, by dsimp only; omega, by dsimp only; omega⟩) hm ?_
                      simp -dsimp -implicitDefEqProofs (maxSteps := 1000000) (disch := first | omega | (simp only [LN]; omega)) only [go_sem, Int.reduceToNat, Int.reducePow, Nat.reducePow, Int.reduceAdd, Int.reduceMul, Int.reduceSub, Int.reduceNeg, Nat.reduceAdd, Nat.reduceMul, Nat.reduceSub, Nat.reduceEqDiff, Nat.reduceLT, Nat.reduceLeDiff]
                      try trivial
                  | false =>
                    have hno : goodL L prev t = none := goodL_no fun n' r' e' hh => by
                      rw [hls] at e'
                      simp only [Option.some.injEq, Prod.mk.injEq] at e'
                      obtain ⟨rfl, rfl⟩ := e'
                      rw [hany] at hh; exact absurd hh.2.2.2 (by decide)
                    rw [hno] at g1
                    dsimp only at g1
                    subst g1
                    have hany2 : anyK r 8 = false := hany
                    repeat' (first
                      | (with_reducible first | refine r_seq ?_ | refine r_block ?_ | refine fork_not ?_ | refine fork_and ?_ | refine fork_or ?_ | refine chk_ok (by kernel_rfl) ?_)
                      | ((with_reducible first | refine fork_dec ?_ ?_ | refine fork_eq ?_ ?_ | refine fork_ne ?_ ?_ | refine fork_intro ?_ ?_) <;> intro h <;> try (exfalso; first | omega | exact h rfl | (revert h; decide) | (cases h; done)))
                      | ((with_reducible show False); omega)
                      | ((first | (with_reducible first | refine r_exit ?_ | refine r_skip ?_ | refine r_cond ?_ | refine r_region ?_ | show VX _ _ _ _ _ _ _ | show vstep _ _ _ _ _ | show vskip _ _ _ | show withV _ _) | ((with_reducible show endA _ _ _ _ _ _ _); simp -implicitDefEqProofs only [endA])); simp -dsimp -implicitDefEqProofs (maxSteps := 1000000) (disch := first | omega | (simp only [LN, hany2]; omega)) only [go_sem, Int.reduceToNat, Int.reducePow, Nat.reducePow, Int.reduceAdd, Int.reduceMul, Int.reduceSub, Int.reduceNeg, Nat.reduceAdd, Nat.reduceMul, Nat.reduceSub, Nat.reduceEqDiff, Nat.reduceLT, Nat.reduceLeDiff, hany2])
                      | ((first | (with_reducible refine r_ret ?_) | (with_reducible refine pick_viewG default (by first | omega | (simp only [LN, hany2]; omega)) (by first | omega | (simp only [LN, hany2]; omega)) ?_) | (with_reducible refine pick_own default (by first | omega | (simp only [LN, hany2]; omega)) ?_) | (with_reducible refine And.intro (by first | decide | omega | assumption | (simp only [LN, hany2]; omega)) ?_) | ((with_reducible show pickE _ _ _); first | refine pickE_intro _ ⟨by omega, by rfl⟩ ?_ | refine pickE_intro _ (by rfl) ?_) | fail); try simp -dsimp -implicitDefEqProofs (maxSteps := 1000000) (disch := first | omega | (simp only [LN, hany2]; omega)) only [go_sem, Int.reduceToNat, Int.reducePow, Nat.reducePow, Int.reduceAdd, Int.reduceMul, Int.reduceSub, Int.reduceNeg, Nat.reduceAdd, Nat.reduceMul, Nat.reduceSub, Nat.reduceEqDiff, Nat.reduceLT, Nat.reduceLeDiff, hany2])
                      | fail)
                    all_goals trace_state
            · rw [goodL_none hc] at g1
              dsimp only at g1
              subst g1
              repeat' (first
                | (with_reducible first | refine r_seq ?_ | refine r_block ?_ | refine fork_not ?_ | refine fork_and ?_ | refine fork_or ?_ | refine chk_ok (by kernel_rfl) ?_)
                | ((with_reducible first | refine fork_dec ?_ ?_ | refine fork_eq ?_ ?_ | refine fork_ne ?_ ?_ | refine fork_intro ?_ ?_) <;> intro h <;> try (exfalso; first | omega | exact h rfl | (revert h; decide) | (cases h; done)))
                | ((with_reducible show False); omega)
                | ((first | (with_reducible first | refine r_exit ?_ | refine r_skip ?_ | refine r_cond ?_ | refine r_region ?_ | show VX _ _ _ _ _ _ _ | show vstep _ _ _ _ _ | show vskip _ _ _ | show withV _ _) | ((with_reducible show endA _ _ _ _ _ _ _); simp -implicitDefEqProofs only [endA])); simp -dsimp -implicitDefEqProofs (maxSteps := 1000000) (disch := first | omega | (simp only [LN, htl, hb2, htk, hdr]; omega)) only [go_sem, Int.reduceToNat, Int.reducePow, Nat.reducePow, Int.reduceAdd, Int.reduceMul, Int.reduceSub, Int.reduceNeg, Nat.reduceAdd, Nat.reduceMul, Nat.reduceSub, Nat.reduceEqDiff, Nat.reduceLT, Nat.reduceLeDiff, htl, hb2, htk, hdr])
                | ((first | (with_reducible refine r_ret ?_) | (with_reducible refine pick_viewG default (by first | omega | (simp only [LN, htl, hb2, htk, hdr]; omega)) (by first | omega | (simp only [LN, htl, hb2, htk, hdr]; omega)) ?_) | (with_reducible refine pick_own default (by first | omega | (simp only [LN, htl, hb2, htk, hdr]; omega)) ?_) | (with_reducible refine And.intro (by first | decide | omega | assumption | (simp only [LN, htl, hb2, htk, hdr]; omega)) ?_) | ((with_reducible apply callK_pure); (exact k67)) | ((with_reducible apply callF_lend); (exact k67); rfl) | ((with_reducible apply callF_go); (exact k67)) | ((with_reducible show pickE _ _ _); first | refine pickE_intro _ ⟨by omega, by rfl⟩ ?_ | refine pickE_intro _ (by rfl) ?_) | fail); try simp -dsimp -implicitDefEqProofs (maxSteps := 1000000) (disch := first | omega | (simp only [LN, htl, hb2, htk, hdr]; omega)) only [go_sem, Int.reduceToNat, Int.reducePow, Nat.reducePow, Int.reduceAdd, Int.reduceMul, Int.reduceSub, Int.reduceNeg, Nat.reduceAdd, Nat.reduceMul, Nat.reduceSub, Nat.reduceEqDiff, Nat.reduceLT, Nat.reduceLeDiff, htl, hb2, htk, hdr])
                | fail)
              all_goals exact absurd ⟨by omega, by omega, by (apply u8_ext; show _ = 58; omega), by omega, by omega⟩ hc
end Go.Proofs.YtcnbngflehiphaaDoor
