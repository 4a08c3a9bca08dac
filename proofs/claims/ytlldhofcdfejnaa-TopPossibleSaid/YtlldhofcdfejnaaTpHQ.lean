/- Contracts of functions of this program, and the plain facts that they rest on. No conditions. -/
import Derived.Test.YtlldhofcdfejnaaTpGQ
set_option linter.unusedSimpArgs false
set_option linter.unusedVariables false
namespace Go.Proofs.Ytlldhofcdfejnaa
open Go Go.Ab
attribute [local irreducible] callK callF loopQ vstep vskip pickE hideP
set_option maxRecDepth 100000
def eNi (n : Int) : PV := .v (.int .i64 n)
noncomputable def fnX (p b : List UInt8) (d : List Nat) (H : Hs) (k : Nat) (o : List Int) : Int :=
 prefM (lw b k 64) (if o.length < d.length ∧ d.getD o.length default = k then H.getD o.length default else []) (lw p k 64)
noncomputable def fnM (p b : List UInt8) (d : List Nat) (H : Hs) : Nat → Option (List Int)
 | 0 => some []
 | k + 1 => (fnM p b d H k).bind fun o => if fnX p b d H k o < 0 then none else if o.length < d.length ∧ d.getD o.length default = k then some (o ++ [fnX p b d H k o]) else some o
noncomputable def fnO (p b : List UInt8) (d : List Nat) (H : Hs) (k : Nat) : List Int := (fnM p b d H k).getD []
theorem fnO_0 (p b : List UInt8) (d : List Nat) (H : Hs) : fnO p b d H 0 = [] := rfl
theorem fnO_len {p b : List UInt8} {d : List Nat} {H : Hs} : ∀ {k : Nat}, (fnO p b d H k).length ≤ k ∧ (fnO p b d H k).length ≤ d.length
 | 0 => ⟨Nat.zero_le _, Nat.zero_le _⟩
 | k + 1 => by
  have ih := fnO_len (p := p) (b := b) (d := d) (H := H) (k := k)
  unfold fnO at ih ⊢
  rw [fnM]
  cases e : fnM p b d H k with
  | none => exact ⟨Nat.zero_le _, Nat.zero_le _⟩
  | some o =>
   rw [e] at ih
   have ih1 : o.length ≤ k := ih.1
   have ih2 : o.length ≤ d.length := ih.2
   have key : ∀ z : Option (List Int), (z = none ∨ ∃ y, z = some y ∧ y.length ≤ k + 1 ∧ y.length ≤ d.length) → (z.getD []).length ≤ k + 1 ∧ (z.getD []).length ≤ d.length := by
    rintro z (rfl | ⟨y, rfl, h1, h2⟩)
    ·exact ⟨Nat.zero_le _, Nat.zero_le _⟩
    ·exact ⟨h1, h2⟩
   apply key
   rw [Option.bind_some]
   split
   ·exact .inl rfl
   ·split
    ·rename_i h; exact .inr ⟨_, rfl, by rw [List.length_append]; exact Nat.add_le_add_right ih1 1, by rw [List.length_append]; exact h.1⟩
    ·exact .inr ⟨_, rfl, by omega, ih2⟩
theorem fnM_n {p b : List UInt8} {d : List Nat} {H : Hs} {k : Nat} (h : fnM p b d H k = none) : ∀ m, fnM p b d H (k + m) = none
 | 0 => h
 | m + 1 => by rw [← Nat.add_assoc, fnM, fnM_n h m]; rfl
theorem fnM_neg {p b : List UInt8} {d : List Nat} {H : Hs} {k n : Nat} (hk : k < n) (h : fnM p b d H k = some (fnO p b d H k)) (hx : fnX p b d H k (fnO p b d H k) < 0) : fnM p b d H n = none := by
 have : fnM p b d H (k + 1) = none := by rw [fnM, h]; exact if_pos hx
 have := fnM_n this (n - (k + 1))
 rwa [show k + 1 + (n - (k + 1)) = n by omega] at this
theorem fnM_d {p b : List UInt8} {d : List Nat} {H : Hs} {k : Nat} (h : fnM p b d H k = some (fnO p b d H k)) (hx : ¬ fnX p b d H k (fnO p b d H k) < 0) (hd : (fnO p b d H k).length < d.length ∧ d.getD (fnO p b d H k).length default = k) : fnM p b d H (k + 1) = some (fnO p b d H (k + 1)) ∧ fnO p b d H (k + 1) = fnO p b d H k ++ [fnX p b d H k (fnO p b d H k)] := by
 have e : fnM p b d H (k + 1) = some (fnO p b d H k ++ [fnX p b d H k (fnO p b d H k)]) := by rw [fnM, h]; exact (if_neg hx).trans (if_pos hd)
 have e2 : fnO p b d H (k + 1) = fnO p b d H k ++ [fnX p b d H k (fnO p b d H k)] := by rw [fnO, e]; rfl
 exact ⟨e2 ▸ e, e2⟩
theorem fnM_c {p b : List UInt8} {d : List Nat} {H : Hs} {k : Nat} (h : fnM p b d H k = some (fnO p b d H k)) (hx : ¬ fnX p b d H k (fnO p b d H k) < 0) (hd : ¬ ((fnO p b d H k).length < d.length ∧ d.getD (fnO p b d H k).length default = k)) : fnM p b d H (k + 1) = some (fnO p b d H (k + 1)) ∧ fnO p b d H (k + 1) = fnO p b d H k := by
 have e : fnM p b d H (k + 1) = some (fnO p b d H k) := by rw [fnM, h]; exact (if_neg hx).trans (if_neg hd)
 have e2 : fnO p b d H (k + 1) = fnO p b d H k := by rw [fnO, e]; rfl
 exact ⟨e2 ▸ e, e2⟩
attribute [local go_sem] eHs eSet eNd eWr eI
noncomputable def fnR (p b : List UInt8) (d : List Nat) (H : Hs) (N : Nat) : Option (List Int) := if b.length = p.length then fnM p b d H N else none
set_option maxRecDepth 100000 in
set_option maxHeartbeats 4000000 in
theorem kFind (p q : List UInt8) (d : List Nat) (H : Hs) (N : Nat) (hN : N ≤ 4096) (hp : p.length = 64 * N) (hb : q.length ≤ 9000000) (hd : d.length = H.length) (hd3 : d.length ≤ 4096) (hw : ∀ l, l ∈ H → l.length ≤ 1000000 ∧ ∀ s, s ∈ l → 0 ≤ s.1 ∧ s.1 ≤ 18446744073709551615) : PCalls Try.prog 23 [eSet p d H, eI q] (.tup [.view 1 (((fnR p q d H N).getD []).map eNi), .v (.bool (fnR p q d H N).isSome)]) := by
 refine pcalls_facts ⟨_, rfl, rfl, by decide⟩ fun hf => ?_
 simp only [go_sem, big] at hf
 refine pcalls_of (E := E) (fn := Try.f23) 70 [.tmp 4, .tmp 5] rfl rfl rfl rfl (by decide) rfl ?_
 have k25 := c17 q hb
 by_cases hbp : q.length = p.length
 ·have hR : fnR p q d H N = fnM p q d H N := if_pos hbp
  rw [hR]
  have k7 := c15 q hb
  rw [show q.length / 64 = N by omega] at k7
  repeat' (first
   | (with_reducible first | refine r_seq ?_ | refine r_block ?_ | refine fork_not ?_ | refine fork_and ?_ | refine fork_or ?_ | refine chk_ok (by kernel_rfl) ?_)
   | ((with_reducible first | refine fork_dec ?_ ?_ | refine fork_eq ?_ ?_ | refine fork_ne ?_ ?_ | refine fork_intro ?_ ?_) <;> intro h <;> try (exfalso; first | omega | exact h rfl | (revert h; decide) | (cases h; done)))
   | ((with_reducible show False); omega)
   | ((first | (with_reducible first | refine r_exit ?_ | refine r_skip ?_ | refine r_cond ?_ | refine r_region ?_ | refine r_ret ?_ | show VX _ _ _ _ _ _ _ | show vstep _ _ _ _ _ | show vskip _ _ _ | show withV _ _) | ((with_reducible show endA _ _ _ _ _ _ _); simp -implicitDefEqProofs only [endA]) | (with_reducible first | refine pick_viewG default (by first | omega | (simp only [LN, hbp]; omega)) (by first | omega | (simp only [LN, hbp]; omega)) ?_ | refine pick_own default (by first | omega | (simp only [LN, hbp]; omega)) ?_ | refine And.intro (by first | decide | omega | assumption | (simp only [LN, hbp]; omega)) ?_) | ((with_reducible apply callK_pure); (first | exact k25 | exact k7 | fail)) | ((with_reducible apply callF_lend); (first | exact k25 | exact k7 | fail); rfl) | ((with_reducible apply callF_go); (first | exact k25 | exact k7 | fail)) | ((with_reducible show pickE _ _ _); first | refine pickE_intro _ ⟨by omega, by rfl⟩ ?_ | refine pickE_intro _ (by rfl) ?_) | fail); try simp -dsimp -implicitDefEqProofs (maxSteps := 1000000) (disch := first | omega | (simp only [LN, hbp]; omega)) only [go_sem, hbp])
   | fail)
  refine r_loopA (α := Nat) [2, 6, 25] (fun k b => [(26, aI k), (7, .sl 3 1 0 (fnO p q d H k).length)]) (fun k b => [(7, .arr 1 ((fnO p q d H k).map eNi))]) (fun k => []) (fun k => k ≤ N ∧ fnM p q d H k = some (fnO p q d H k)) (fun k => N - k) (0) ?h0_1 ?hs0_1 ?I_1 ?hI_1 ?round_1
  case hI_1 => intro x; (simp -dsimp -implicitDefEqProofs (maxSteps := 1000000) (disch := first | omega | (simp only [LN]; omega)) only [go_sem]) <;> exact rfl
  case hs0_1 => refine wk_auto ?_; (simp -dsimp -implicitDefEqProofs (maxSteps := 1000000) (disch := first | omega | (simp only [LN, fnO_0]; omega)) only [go_sem, fnO_0]) <;> (try omega)
  case h0_1 => exact ⟨Nat.zero_le _, rfl⟩
  case round_1 =>
   rintro k ⟨hk, ho⟩
   obtain ⟨ol, ol2⟩ := fnO_len (p := p) (b := q) (d := d) (H := H) (k := k)
   have w3 : IntKind.i64.wrap ((k : Int) + 1) = ((k + 1 : Nat) : Int) := by rw [IntKind.wrap_i64]; push_cast; omega
   by_cases hk2 : k < N
   ·have l1 := pLine p k (by omega) (by omega)
    have l2 := pLine q k (by omega) (by omega)
    have cn := fnM_neg hk2 ho
    have cd := fnM_d ho
    have cc := fnM_c ho
    generalize hoo : fnO p q d H k = o at *
    by_cases h1 : o.length < d.length
    ·by_cases h2 : d.getD o.length default = k
     ·have hm : H.getD o.length default ∈ H := by rw [List.getD_eq_getElem?_getD, List.getElem?_eq_getElem (show o.length < H.length by omega)]; exact List.getElem_mem _
      have hx : fnX p q d H k o = prefM (lw q k 64) (H.getD o.length default) (lw p k 64) := by unfold fnX; rw [if_pos ⟨h1, h2⟩]
      generalize hHH : H.getD o.length default = x at *
      have kp := pPrefix (lw p k 64) (lw q k 64) x (hw x hm).1 (hw x hm).2
      rw [← hx] at kp
      by_cases hn : fnX p q d H k o < 0
      ·rw [cn hn]
       repeat' (first
        | (with_reducible first | refine r_seq ?_ | refine r_block ?_ | refine fork_not ?_ | refine fork_and ?_ | refine fork_or ?_ | refine chk_ok (by kernel_rfl) ?_)
        | ((with_reducible first | refine fork_dec ?_ ?_ | refine fork_eq ?_ ?_ | refine fork_ne ?_ ?_ | refine fork_intro ?_ ?_) <;> intro h <;> try (exfalso; first | omega | exact h rfl | (revert h; decide) | (cases h; done)))
        | ((with_reducible show False); omega)
        | ((first | (with_reducible first | refine r_exit ?_ | refine r_skip ?_ | refine r_cond ?_ | refine r_region ?_ | refine r_ret ?_ | show VX _ _ _ _ _ _ _ | show vstep _ _ _ _ _ | show vskip _ _ _ | show withV _ _) | ((with_reducible show endA _ _ _ _ _ _ _); simp -implicitDefEqProofs only [endA]) | (with_reducible first | refine pick_viewG default (by first | omega | (simp only [LN, h2, hHH, hn]; omega)) (by first | omega | (simp only [LN, h2, hHH, hn]; omega)) ?_ | refine pick_own default (by first | omega | (simp only [LN, h2, hHH, hn]; omega)) ?_ | refine And.intro (by first | decide | omega | assumption | (simp only [LN, h2, hHH, hn]; omega)) ?_) | ((with_reducible apply callK_pure); (first | exact l1 | exact l2 | exact kp | fail)) | ((with_reducible apply callF_lend); (first | exact l1 | exact l2 | exact kp | fail); rfl) | ((with_reducible apply callF_go); (first | exact l1 | exact l2 | exact kp | fail)) | ((with_reducible show pickE _ _ _); first | refine pickE_intro _ ⟨by omega, by rfl⟩ ?_ | refine pickE_intro _ (by rfl) ?_) | fail); try simp -dsimp -implicitDefEqProofs (maxSteps := 1000000) (disch := first | omega | (simp only [LN, h2, hHH, hn]; omega)) only [go_sem, h2, hHH, hn])
        | fail)
       all_goals first | omega | rfl
      ·obtain ⟨c1, c2⟩ := cd hn ⟨h1, h2⟩
       repeat' (first
        | (with_reducible first | refine r_seq ?_ | refine r_block ?_ | refine fork_not ?_ | refine fork_and ?_ | refine fork_or ?_ | refine chk_ok (by kernel_rfl) ?_)
        | ((with_reducible first | refine fork_dec ?_ ?_ | refine fork_eq ?_ ?_ | refine fork_ne ?_ ?_ | refine fork_intro ?_ ?_) <;> intro h <;> try (exfalso; first | omega | exact h rfl | (revert h; decide) | (cases h; done)))
        | ((with_reducible show False); omega)
        | ((first | (with_reducible first | refine r_exit ?_ | refine r_skip ?_ | refine r_cond ?_ | refine r_region ?_ | refine r_ret ?_ | show VX _ _ _ _ _ _ _ | show vstep _ _ _ _ _ | show vskip _ _ _ | show withV _ _) | ((with_reducible show endA _ _ _ _ _ _ _); simp -implicitDefEqProofs only [endA]) | (with_reducible first | refine pick_viewG default (by first | omega | (simp only [LN, h2, hHH, hn]; omega)) (by first | omega | (simp only [LN, h2, hHH, hn]; omega)) ?_ | refine pick_own default (by first | omega | (simp only [LN, h2, hHH, hn]; omega)) ?_ | refine And.intro (by first | decide | omega | assumption | (simp only [LN, h2, hHH, hn]; omega)) ?_) | ((with_reducible apply callK_pure); (first | exact l1 | exact l2 | exact kp | fail)) | ((with_reducible apply callF_lend); (first | exact l1 | exact l2 | exact kp | fail); rfl) | ((with_reducible apply callF_go); (first | exact l1 | exact l2 | exact kp | fail)) | ((with_reducible show pickE _ _ _); first | refine pickE_intro _ ⟨by omega, by rfl⟩ ?_ | refine pickE_intro _ (by rfl) ?_) | fail); try simp -dsimp -implicitDefEqProofs (maxSteps := 1000000) (disch := first | omega | (simp only [LN, h2, hHH, hn]; omega)) only [go_sem, h2, hHH, hn])
        | fail)
       all_goals first | omega | ((refine loopQ_next (k + 1) ?_ ?_ ?_; (exact ⟨by omega, c1⟩); (show _ < _; omega); (simp -dsimp -implicitDefEqProofs (maxSteps := 1000000) (disch := first | omega | (simp only [LN, w3, c2, List.map_append, List.length_append, List.map_cons, List.map_nil, List.length_singleton, eNi]; omega)) only [go_sem, w3, c2, List.map_append, List.length_append, List.map_cons, List.map_nil, List.length_singleton, eNi]; try trivial)))
     ·have hx : fnX p q d H k o = prefM (lw q k 64) [] (lw p k 64) := by unfold fnX; rw [if_neg (fun h => h2 h.2)]
      have kp := pPrefix (lw p k 64) (lw q k 64) [] (by decide) (by simp)
      rw [← hx] at kp
      have h3 : ¬ ((d.getD o.length default : Nat) : Int) = k := by omega
      by_cases hn : fnX p q d H k o < 0
      ·rw [cn hn]
       repeat' (first
        | (with_reducible first | refine r_seq ?_ | refine r_block ?_ | refine fork_not ?_ | refine fork_and ?_ | refine fork_or ?_ | refine chk_ok (by kernel_rfl) ?_)
        | ((with_reducible first | refine fork_dec ?_ ?_ | refine fork_eq ?_ ?_ | refine fork_ne ?_ ?_ | refine fork_intro ?_ ?_) <;> intro h <;> try (exfalso; first | omega | exact h rfl | (revert h; decide) | (cases h; done)))
        | ((with_reducible show False); omega)
        | ((first | (with_reducible first | refine r_exit ?_ | refine r_skip ?_ | refine r_cond ?_ | refine r_region ?_ | refine r_ret ?_ | show VX _ _ _ _ _ _ _ | show vstep _ _ _ _ _ | show vskip _ _ _ | show withV _ _) | ((with_reducible show endA _ _ _ _ _ _ _); simp -implicitDefEqProofs only [endA]) | (with_reducible first | refine pick_viewG default (by first | omega | (simp only [LN, h3, hn]; omega)) (by first | omega | (simp only [LN, h3, hn]; omega)) ?_ | refine pick_own default (by first | omega | (simp only [LN, h3, hn]; omega)) ?_ | refine And.intro (by first | decide | omega | assumption | (simp only [LN, h3, hn]; omega)) ?_) | ((with_reducible apply callK_to); exact kp; (focus (simp -dsimp -implicitDefEqProofs (maxSteps := 1000000) (disch := first | omega | (simp only [LN, h3, hn]; omega)) only [go_sem, h3, hn]; done))) | ((with_reducible apply callK_pure); (first | exact l1 | exact l2 | fail)) | ((with_reducible apply callF_lend); (first | exact l1 | exact l2 | fail); rfl) | ((with_reducible apply callF_go); (first | exact l1 | exact l2 | fail)) | ((with_reducible show pickE _ _ _); first | refine pickE_intro _ ⟨by omega, by rfl⟩ ?_ | refine pickE_intro _ (by rfl) ?_) | fail); try simp -dsimp -implicitDefEqProofs (maxSteps := 1000000) (disch := first | omega | (simp only [LN, h3, hn]; omega)) only [go_sem, h3, hn])
        | fail)
       all_goals first | omega | rfl
      ·obtain ⟨c1, c2⟩ := cc hn (fun h => h2 h.2)
       repeat' (first
        | (with_reducible first | refine r_seq ?_ | refine r_block ?_ | refine fork_not ?_ | refine fork_and ?_ | refine fork_or ?_ | refine chk_ok (by kernel_rfl) ?_)
        | ((with_reducible first | refine fork_dec ?_ ?_ | refine fork_eq ?_ ?_ | refine fork_ne ?_ ?_ | refine fork_intro ?_ ?_) <;> intro h <;> try (exfalso; first | omega | exact h rfl | (revert h; decide) | (cases h; done)))
        | ((with_reducible show False); omega)
        | ((first | (with_reducible first | refine r_exit ?_ | refine r_skip ?_ | refine r_cond ?_ | refine r_region ?_ | refine r_ret ?_ | show VX _ _ _ _ _ _ _ | show vstep _ _ _ _ _ | show vskip _ _ _ | show withV _ _) | ((with_reducible show endA _ _ _ _ _ _ _); simp -implicitDefEqProofs only [endA]) | (with_reducible first | refine pick_viewG default (by first | omega | (simp only [LN, h3, hn]; omega)) (by first | omega | (simp only [LN, h3, hn]; omega)) ?_ | refine pick_own default (by first | omega | (simp only [LN, h3, hn]; omega)) ?_ | refine And.intro (by first | decide | omega | assumption | (simp only [LN, h3, hn]; omega)) ?_) | ((with_reducible apply callK_to); exact kp; (focus (simp -dsimp -implicitDefEqProofs (maxSteps := 1000000) (disch := first | omega | (simp only [LN, h3, hn]; omega)) only [go_sem, h3, hn]; done))) | ((with_reducible apply callK_pure); (first | exact l1 | exact l2 | fail)) | ((with_reducible apply callF_lend); (first | exact l1 | exact l2 | fail); rfl) | ((with_reducible apply callF_go); (first | exact l1 | exact l2 | fail)) | ((with_reducible show pickE _ _ _); first | refine pickE_intro _ ⟨by omega, by rfl⟩ ?_ | refine pickE_intro _ (by rfl) ?_) | fail); try simp -dsimp -implicitDefEqProofs (maxSteps := 1000000) (disch := first | omega | (simp only [LN, h3, hn]; omega)) only [go_sem, h3, hn])
        | fail)
       all_goals first | omega | ((refine loopQ_next (k + 1) ?_ ?_ ?_; (exact ⟨by omega, c1⟩); (show _ < _; omega); (simp -dsimp -implicitDefEqProofs (maxSteps := 1000000) (disch := first | omega | (simp only [LN, w3, c2]; omega)) only [go_sem, w3, c2]; try trivial)))
    ·have hx : fnX p q d H k o = prefM (lw q k 64) [] (lw p k 64) := by unfold fnX; rw [if_neg (fun h => h1 h.1)]
     have kp := pPrefix (lw p k 64) (lw q k 64) [] (by decide) (by simp)
     rw [← hx] at kp
     by_cases hn : fnX p q d H k o < 0
     ·rw [cn hn]
      repeat' (first
       | (with_reducible first | refine r_seq ?_ | refine r_block ?_ | refine fork_not ?_ | refine fork_and ?_ | refine fork_or ?_ | refine chk_ok (by kernel_rfl) ?_)
       | ((with_reducible first | refine fork_dec ?_ ?_ | refine fork_eq ?_ ?_ | refine fork_ne ?_ ?_ | refine fork_intro ?_ ?_) <;> intro h <;> try (exfalso; first | omega | exact h rfl | (revert h; decide) | (cases h; done)))
       | ((with_reducible show False); omega)
       | ((first | (with_reducible first | refine r_exit ?_ | refine r_skip ?_ | refine r_cond ?_ | refine r_region ?_ | refine r_ret ?_ | show VX _ _ _ _ _ _ _ | show vstep _ _ _ _ _ | show vskip _ _ _ | show withV _ _) | ((with_reducible show endA _ _ _ _ _ _ _); simp -implicitDefEqProofs only [endA]) | (with_reducible first | refine pick_viewG default (by first | omega | (simp only [LN, hn]; omega)) (by first | omega | (simp only [LN, hn]; omega)) ?_ | refine pick_own default (by first | omega | (simp only [LN, hn]; omega)) ?_ | refine And.intro (by first | decide | omega | assumption | (simp only [LN, hn]; omega)) ?_) | ((with_reducible apply callK_to); exact kp; (focus (simp -dsimp -implicitDefEqProofs (maxSteps := 1000000) (disch := first | omega | (simp only [LN, hn]; omega)) only [go_sem, hn]; done))) | ((with_reducible apply callK_pure); (first | exact l1 | exact l2 | fail)) | ((with_reducible apply callF_lend); (first | exact l1 | exact l2 | fail); rfl) | ((with_reducible apply callF_go); (first | exact l1 | exact l2 | fail)) | ((with_reducible show pickE _ _ _); first | refine pickE_intro _ ⟨by omega, by rfl⟩ ?_ | refine pickE_intro _ (by rfl) ?_) | fail); try simp -dsimp -implicitDefEqProofs (maxSteps := 1000000) (disch := first | omega | (simp only [LN, hn]; omega)) only [go_sem, hn])
       | fail)
      all_goals first | omega | rfl
     ·obtain ⟨c1, c2⟩ := cc hn (fun h => h1 h.1)
      repeat' (first
       | (with_reducible first | refine r_seq ?_ | refine r_block ?_ | refine fork_not ?_ | refine fork_and ?_ | refine fork_or ?_ | refine chk_ok (by kernel_rfl) ?_)
       | ((with_reducible first | refine fork_dec ?_ ?_ | refine fork_eq ?_ ?_ | refine fork_ne ?_ ?_ | refine fork_intro ?_ ?_) <;> intro h <;> try (exfalso; first | omega | exact h rfl | (revert h; decide) | (cases h; done)))
       | ((with_reducible show False); omega)
       | ((first | (with_reducible first | refine r_exit ?_ | refine r_skip ?_ | refine r_cond ?_ | refine r_region ?_ | refine r_ret ?_ | show VX _ _ _ _ _ _ _ | show vstep _ _ _ _ _ | show vskip _ _ _ | show withV _ _) | ((with_reducible show endA _ _ _ _ _ _ _); simp -implicitDefEqProofs only [endA]) | (with_reducible first | refine pick_viewG default (by first | omega | (simp only [LN, hn]; omega)) (by first | omega | (simp only [LN, hn]; omega)) ?_ | refine pick_own default (by first | omega | (simp only [LN, hn]; omega)) ?_ | refine And.intro (by first | decide | omega | assumption | (simp only [LN, hn]; omega)) ?_) | ((with_reducible apply callK_to); exact kp; (focus (simp -dsimp -implicitDefEqProofs (maxSteps := 1000000) (disch := first | omega | (simp only [LN, hn]; omega)) only [go_sem, hn]; done))) | ((with_reducible apply callK_pure); (first | exact l1 | exact l2 | fail)) | ((with_reducible apply callF_lend); (first | exact l1 | exact l2 | fail); rfl) | ((with_reducible apply callF_go); (first | exact l1 | exact l2 | fail)) | ((with_reducible show pickE _ _ _); first | refine pickE_intro _ ⟨by omega, by rfl⟩ ?_ | refine pickE_intro _ (by rfl) ?_) | fail); try simp -dsimp -implicitDefEqProofs (maxSteps := 1000000) (disch := first | omega | (simp only [LN, hn]; omega)) only [go_sem, hn])
       | fail)
      all_goals first | omega | ((refine loopQ_next (k + 1) ?_ ?_ ?_; (exact ⟨by omega, c1⟩); (show _ < _; omega); (simp -dsimp -implicitDefEqProofs (maxSteps := 1000000) (disch := first | omega | (simp only [LN, w3, c2]; omega)) only [go_sem, w3, c2]; try trivial)))
   ·obtain rfl : k = N := by omega
    clear w3
    repeat' (first
     | (with_reducible first | refine r_seq ?_ | refine r_block ?_ | refine fork_not ?_ | refine fork_and ?_ | refine fork_or ?_ | refine chk_ok (by kernel_rfl) ?_)
     | ((with_reducible first | refine fork_dec ?_ ?_ | refine fork_eq ?_ ?_ | refine fork_ne ?_ ?_ | refine fork_intro ?_ ?_) <;> intro h <;> try (exfalso; first | omega | exact h rfl | (revert h; decide) | (cases h; done)))
     | ((with_reducible show False); omega)
     | ((first | (with_reducible first | refine r_exit ?_ | refine r_skip ?_ | refine r_cond ?_ | refine r_region ?_ | refine r_ret ?_ | show VX _ _ _ _ _ _ _ | show vstep _ _ _ _ _ | show vskip _ _ _ | show withV _ _) | ((with_reducible show endA _ _ _ _ _ _ _); simp -implicitDefEqProofs only [endA]) | (with_reducible first | refine pick_viewG default (by first | omega | (simp only [LN]; omega)) (by first | omega | (simp only [LN]; omega)) ?_ | refine pick_own default (by first | omega | (simp only [LN]; omega)) ?_ | refine And.intro (by first | decide | omega | assumption | (simp only [LN]; omega)) ?_) | ((with_reducible show pickE _ _ _); first | refine pickE_intro _ ⟨by omega, by rfl⟩ ?_ | refine pickE_intro _ (by rfl) ?_) | fail); try simp -dsimp -implicitDefEqProofs (maxSteps := 1000000) (disch := first | omega | (simp only [LN]; omega)) only [go_sem])
     | fail)
    all_goals first | omega | (rw [ho]; exact ⟨rfl, rfl⟩)
 ·have hR : fnR p q d H N = none := if_neg hbp
  rw [hR]
  repeat' (first
   | (with_reducible first | refine r_seq ?_ | refine r_block ?_ | refine fork_not ?_ | refine fork_and ?_ | refine fork_or ?_ | refine chk_ok (by kernel_rfl) ?_)
   | ((with_reducible first | refine fork_dec ?_ ?_ | refine fork_eq ?_ ?_ | refine fork_ne ?_ ?_ | refine fork_intro ?_ ?_) <;> intro h <;> try (exfalso; first | omega | exact h rfl | (revert h; decide) | (cases h; done)))
   | ((with_reducible show False); omega)
   | ((first | (with_reducible first | refine r_exit ?_ | refine r_skip ?_ | refine r_cond ?_ | refine r_region ?_ | refine r_ret ?_ | show VX _ _ _ _ _ _ _ | show vstep _ _ _ _ _ | show vskip _ _ _ | show withV _ _) | ((with_reducible show endA _ _ _ _ _ _ _); simp -implicitDefEqProofs only [endA]) | (with_reducible first | refine pick_viewG default (by first | omega | (simp only [LN, hbp]; omega)) (by first | omega | (simp only [LN, hbp]; omega)) ?_ | refine pick_own default (by first | omega | (simp only [LN, hbp]; omega)) ?_ | refine And.intro (by first | decide | omega | assumption | (simp only [LN, hbp]; omega)) ?_) | ((with_reducible apply callK_pure); (exact k25)) | ((with_reducible apply callF_lend); (exact k25); rfl) | ((with_reducible apply callF_go); (exact k25)) | ((with_reducible show pickE _ _ _); first | refine pickE_intro _ ⟨by omega, by rfl⟩ ?_ | refine pickE_intro _ (by rfl) ?_) | fail); try simp -dsimp -implicitDefEqProofs (maxSteps := 1000000) (disch := first | omega | (simp only [LN, hbp]; omega)) only [go_sem, hbp])
   | fail)
  all_goals first | omega | (simp; done)
end Go.Proofs.Ytlldhofcdfejnaa