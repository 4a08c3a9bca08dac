/- Contracts of functions of this program, and the plain facts that they rest on. No conditions. -/
import Derived.Test.YtpcjeaaplidmaaaDoorLinP2Q
import Derived.Test.YtpcjeaaplidmaaaDoorLinRQ
import Derived.Test.YtpcjeaaplidmaaaDoorLinN2Q
import Derived.Test.YtpcjeaaplidmaaaDoorLinKQ
set_option linter.unusedSimpArgs false
set_option linter.unusedVariables false
namespace Go.Proofs.YtpcjeaaplidmaaaDoor
open Go Go.Ab
attribute [local irreducible] callK callF loopQ vstep vskip pickE hideP
open Go.RowKit
set_option maxRecDepth 100000
attribute [local go_sem] Hi.eC Hi.rC Hi.eE Hi.hc Hi.hP Hi.oH sV eM eN eI eB pcells_L
set_option maxRecDepth 100000 in
set_option maxHeartbeats 4000000 in
theorem o16es (k : Int) (x : Hi.H) (fin : LP) (hfl : fin.length ≤ 10000) (hl : x.cl.length ≤ 100000) (h : checkE k x.cl ≠ 0) : ACalls Tryd.prog 16 [.p (.v (.int .u8 k)), .loc 0 0, .sl 1 2 0 fin.length] [Hi.oH x 2 3, .arr 2 (fin.map Sp.eP), .arr 2 (x.ev.map Hi.eE), .arr 11 (x.cl.map Hi.eC)] (.p (.tup [.view 1 [], .v (.bool false), .v (.int .i64 (checkE k x.cl))])) [Hi.oH x 2 3, .arr 2 (fin.map Sp.eP), .arr 2 (x.ev.map Hi.eE), .arr 11 (x.cl.map Hi.eC)] := by
 refine acalls_of (E := E) (fn := Tryd.f16) 32 [.tmp 6, .tmp 7, .tmp 8] rfl rfl rfl rfl (by decide) rfl rfl ?_
 have c29 := o29e k x hl h
 generalize checkE k x.cl = e at *
 repeat' (first
  | (with_reducible first | refine r_seq ?_ | refine r_block ?_ | refine fork_not ?_ | refine fork_and ?_ | refine fork_or ?_ | refine chk_ok (by kernel_rfl) ?_)
  | ((with_reducible first | refine fork_dec ?_ ?_ | refine fork_eq ?_ ?_ | refine fork_ne ?_ ?_ | refine fork_intro ?_ ?_) <;> intro h <;> try (exfalso; first | omega | exact h rfl | (revert h; decide) | (cases h; done)))
  | ((with_reducible show False); omega)
  | ((first | (with_reducible first | refine r_exit ?_ | refine r_skip ?_ | refine r_cond ?_ | refine r_region ?_ | refine r_ret ?_ | show VX _ _ _ _ _ _ _ | show vstep _ _ _ _ _ | show vskip _ _ _ | show withV _ _) | ((with_reducible show endA _ _ _ _ _ _ _); simp -implicitDefEqProofs only [endA]) | (with_reducible first | refine pick_viewG default (by first | omega | (simp only [LN]; omega)) (by first | omega | (simp only [LN]; omega)) ?_ | refine pick_own default (by first | omega | (simp only [LN]; omega)) ?_ | refine And.intro (by first | decide | omega | assumption | (simp only [LN]; omega)) ?_) | (with_reducible first | apply callK_lent | apply callF_lent | apply hideP_own) | ((with_reducible apply callA_go); (first | exact c29 | fail)) | ((with_reducible show pickE _ _ _); first | refine pickE_intro _ ⟨by omega, by rfl⟩ ?_ | refine pickE_intro _ (by rfl) ?_) | fail); try simp -dsimp -implicitDefEqProofs (maxSteps := 1000000) (disch := first | omega | (simp only [LN]; omega)) only [go_sem])
  | fail)
 all_goals first | rfl | ((repeat' (first | rfl | apply And.intro | apply Or.inl)); done) | omega
attribute [local irreducible] seenV keyM goM runM numL textP befL endN checkR prefR usedL bgT eraT stT
set_option maxRecDepth 100000 in
set_option maxHeartbeats 4000000 in
theorem o19s (k : Int) (x : Hi.H) (o : List Int) (fin : LP) (hfl : fin.length ≤ 10000) (hl : x.cl.length ≤ 1000) (ho : o.length ≤ 1000) (h : examE k x.cl = 0) (hro : ∀ i, i < x.cl.length → RngO (opC (x.cl.getD i default))) : ACalls Tryd.prog 19 [.p (.v (.int .u8 k)), .loc 0 0, .p (.view 1 (o.map eI)), .sl 1 2 0 fin.length] [Hi.oH x 2 3, .arr 2 (fin.map Sp.eP), .arr 2 (x.ev.map Hi.eE), .arr 11 (x.cl.map Hi.eC)] (.p (.v (.int .i64 (verM k x.cl o fin)))) [Hi.oH x 2 3, .arr 2 (fin.map Sp.eP), .arr 2 (x.ev.map Hi.eE), .arr 11 (x.cl.map Hi.eC)] := by
 refine acalls_of (E := E) (fn := Tryd.f19) 152 [.tmp 8] rfl rfl rfl rfl (by decide) rfl rfl ?_
 have hk := exam_k h
 have c35 := o35 k x (by omega)
 rw [h, if_pos rfl] at c35
 have c8 := c8S k
 obtain ⟨V, hV⟩ : ∃ V, verM k x.cl o fin = V := ⟨_, rfl⟩
 rw [hV]
 unfold verM at hV
 rw [if_neg (fun hh => hh h)] at hV
 have hV2 : ∀ i, i ≤ o.length → ¬ inR x.cl.length o i → V = 2 := fun i hi hn => by
  rw [← hV, if_pos]; exact fun hh => hn fun j hj => hh j (by omega)
 repeat' (first
  | (with_reducible first | refine r_seq ?_ | refine r_block ?_ | refine fork_not ?_ | refine fork_and ?_ | refine fork_or ?_ | refine chk_ok (by kernel_rfl) ?_)
  | ((with_reducible first | refine fork_dec ?_ ?_ | refine fork_eq ?_ ?_ | refine fork_ne ?_ ?_ | refine fork_intro ?_ ?_) <;> intro h <;> try (exfalso; first | omega | exact h rfl | (revert h; decide) | (cases h; done)))
  | ((with_reducible show False); omega)
  | ((first | (with_reducible first | refine r_exit ?_ | refine r_skip ?_ | refine r_cond ?_ | refine r_region ?_ | refine r_ret ?_ | show VX _ _ _ _ _ _ _ | show vstep _ _ _ _ _ | show vskip _ _ _ | show withV _ _) | ((with_reducible show endA _ _ _ _ _ _ _); simp -implicitDefEqProofs only [endA]) | (with_reducible first | refine pick_viewG default (by first | omega | (simp only [LN]; omega)) (by first | omega | (simp only [LN]; omega)) ?_ | refine pick_own default (by first | omega | (simp only [LN]; omega)) ?_ | refine And.intro (by first | decide | omega | assumption | (simp only [LN]; omega)) ?_) | (with_reducible first | apply callK_lent | apply callF_lent | apply hideP_own) | ((with_reducible apply callA_go); (first | exact c35 | fail)) | ((with_reducible show pickE _ _ _); first | refine pickE_intro _ ⟨by omega, by rfl⟩ ?_ | refine pickE_intro _ (by rfl) ?_) | fail); try simp -dsimp -implicitDefEqProofs (maxSteps := 1000000) (disch := first | omega | (simp only [LN]; omega)) only [go_sem])
  | fail)
 refine r_loopA (α := Nat) [0, 2, 3, 9, 11, 37, 38] (fun i b => [(39, aI i)]) (fun i b => [(11, .arr 1 ((usedL x.cl.length o i).map eB))]) (fun i => []) (fun i => i ≤ o.length ∧ inR x.cl.length o i) (fun i => o.length - i) (0) ?h0_1 ?hs0_1 ?I_1 ?hI_1 ?round_1
 case hI_1 => intro x; (simp -dsimp -implicitDefEqProofs (maxSteps := 1000000) (disch := first | omega | (simp only [LN]; omega)) only [go_sem]) <;> exact rfl
 case hs0_1 => refine wk_auto ?_; (simp -dsimp -implicitDefEqProofs (maxSteps := 1000000) (disch := first | omega | (simp only [LN, used_0 _ o]; omega)) only [go_sem, used_0 _ o]) <;> (try omega)
 case h0_1 => exact ⟨Nat.zero_le _, fun j hj => absurd hj (by omega)⟩
 case round_1 =>
  rintro i ⟨h1, h2⟩
  by_cases hi : i < o.length
  ·by_cases hn : inR x.cl.length o (i + 1)
   ·have hn1 := (hn i (by omega)).1
    have hn2 := (hn i (by omega)).2
    obtain ⟨n, hnn⟩ := Int.eq_ofNat_of_zero_le hn1.1
    have hu : (usedL x.cl.length o i).getD n default = false := by
     rw [used_get (by omega), decide_eq_false_iff_not, mem_take (by omega)]
     rintro ⟨m, hm, h3⟩
     exact hn2 m hm (by rw [h3, hnn])
    have hs := used_set (N := x.cl.length) hi hnn
    repeat' (first
     | (with_reducible first | refine r_seq ?_ | refine r_block ?_ | refine fork_not ?_ | refine fork_and ?_ | refine fork_or ?_ | refine chk_ok (by kernel_rfl) ?_)
     | ((with_reducible first | refine fork_dec ?_ ?_ | refine fork_eq ?_ ?_ | refine fork_ne ?_ ?_ | refine fork_intro ?_ ?_) <;> intro h <;> try (exfalso; first | omega | exact h rfl | (revert h; decide) | (cases h; done)))
     | ((with_reducible show False); omega)
     | ((first | (with_reducible first | refine r_exit ?_ | refine r_skip ?_ | refine r_cond ?_ | refine r_region ?_ | refine r_ret ?_ | show VX _ _ _ _ _ _ _ | show vstep _ _ _ _ _ | show vskip _ _ _ | show withV _ _) | ((with_reducible show endA _ _ _ _ _ _ _); simp -implicitDefEqProofs only [endA]) | (with_reducible first | refine pick_viewG default (by first | omega | (simp only [LN, used_len, hnn, hu]; omega)) (by first | omega | (simp only [LN, used_len, hnn, hu]; omega)) ?_ | refine pick_own default (by first | omega | (simp only [LN, used_len, hnn, hu]; omega)) ?_ | refine And.intro (by first | decide | omega | assumption | (simp only [LN, used_len, hnn, hu]; omega)) ?_) | ((with_reducible show pickE _ _ _); first | refine pickE_intro _ ⟨by omega, by rfl⟩ ?_ | refine pickE_intro _ (by rfl) ?_) | fail); try simp -dsimp -implicitDefEqProofs (maxSteps := 1000000) (disch := first | omega | (simp only [LN, used_len, hnn, hu]; omega)) only [go_sem, used_len, hnn, hu])
     | fail)
    (refine loopQ_next (i + 1) ?_ ?_ ?_; (exact ⟨by omega, hn⟩); (show _ < _; omega); (simp -dsimp -implicitDefEqProofs (maxSteps := 1000000) (disch := first | omega | (simp only [LN, ← hs, List.map_set]; omega)) only [go_sem, ← hs, List.map_set]; try trivial))
   ·have hv := hV2 (i + 1) (by omega) hn
    have key : ∀ (g1 : ¬ o.getD i default < 0) (g2 : ¬ o.getD i default ≥ x.cl.length) (g3 : (usedL x.cl.length o i).getD (o.getD i default).toNat default = false), False := fun g1 g2 g3 => by
     refine hn fun j hj => ?_
     rcases Nat.lt_or_ge j i with h4 | h4
     ·exact h2 j h4
     ·obtain rfl : j = i := by omega
      refine ⟨by omega, fun m hm h5 => ?_⟩
      rw [used_get (by omega), decide_eq_false_iff_not, mem_take (by omega)] at g3
      exact g3 ⟨m, hm, by omega⟩
    repeat' (first
     | (with_reducible first | refine r_seq ?_ | refine r_block ?_ | refine fork_not ?_ | refine fork_and ?_ | refine fork_or ?_ | refine chk_ok (by kernel_rfl) ?_)
     | ((with_reducible first | refine fork_dec ?_ ?_ | refine fork_eq ?_ ?_ | refine fork_ne ?_ ?_ | refine fork_intro ?_ ?_) <;> intro h <;> try (exfalso; first | omega | exact h rfl | (revert h; decide) | (cases h; done)))
     | ((with_reducible show False); omega)
     | ((first | (with_reducible first | refine r_exit ?_ | refine r_skip ?_ | refine r_cond ?_ | refine r_region ?_ | refine r_ret ?_ | show VX _ _ _ _ _ _ _ | show vstep _ _ _ _ _ | show vskip _ _ _ | show withV _ _) | ((with_reducible show endA _ _ _ _ _ _ _); simp -implicitDefEqProofs only [endA]) | (with_reducible first | refine pick_viewG default (by first | omega | (simp only [LN, used_len]; omega)) (by first | omega | (simp only [LN, used_len]; omega)) ?_ | refine pick_own default (by first | omega | (simp only [LN, used_len]; omega)) ?_ | refine And.intro (by first | decide | omega | assumption | (simp only [LN, used_len]; omega)) ?_) | ((with_reducible show pickE _ _ _); first | refine pickE_intro _ ⟨by omega, by rfl⟩ ?_ | refine pickE_intro _ (by rfl) ?_) | fail); try simp -dsimp -implicitDefEqProofs (maxSteps := 1000000) (disch := first | omega | (simp only [LN, used_len]; omega)) only [go_sem, used_len])
     | fail)
    all_goals first
     | (rw [hv]; done)
     | (exfalso; refine key ?_ ?_ ?_ <;> assumption)
  ·obtain rfl : i = o.length := by omega
   rw [if_neg (fun hh => hh h2)] at hV
   have hto : ∀ n, n ≤ o.length → ∀ j, j < n → ∃ a : Nat, o.getD j default = (a : Int) ∧ a < x.cl.length := fun n hn j hj => by
    have := (h2 j (by omega)).1
    exact ⟨(o.getD j default).toNat, by omega, by omega⟩
   have hu : ∀ a, a < x.cl.length → (usedL x.cl.length o o.length).getD a default = decide ((a : Int) ∈ o) := fun a ha => by rw [used_get ha, List.take_length]
   repeat' (first
    | (with_reducible first | refine r_seq ?_ | refine r_block ?_ | refine fork_not ?_ | refine fork_and ?_ | refine fork_or ?_ | refine chk_ok (by kernel_rfl) ?_)
    | ((with_reducible first | refine fork_dec ?_ ?_ | refine fork_eq ?_ ?_ | refine fork_ne ?_ ?_ | refine fork_intro ?_ ?_) <;> intro h <;> try (exfalso; first | omega | exact h rfl | (revert h; decide) | (cases h; done)))
    | ((with_reducible show False); omega)
    | ((first | (with_reducible first | refine r_exit ?_ | refine r_skip ?_ | refine r_cond ?_ | refine r_region ?_ | refine r_ret ?_ | show VX _ _ _ _ _ _ _ | show vstep _ _ _ _ _ | show vskip _ _ _ | show withV _ _) | ((with_reducible show endA _ _ _ _ _ _ _); simp -implicitDefEqProofs only [endA]) | (with_reducible first | refine pick_viewG default (by first | omega | (simp only [LN]; omega)) (by first | omega | (simp only [LN]; omega)) ?_ | refine pick_own default (by first | omega | (simp only [LN]; omega)) ?_ | refine And.intro (by first | decide | omega | assumption | (simp only [LN]; omega)) ?_) | ((with_reducible show pickE _ _ _); first | refine pickE_intro _ ⟨by omega, by rfl⟩ ?_ | refine pickE_intro _ (by rfl) ?_) | fail); try simp -dsimp -implicitDefEqProofs (maxSteps := 1000000) (disch := first | omega | (simp only [LN]; omega)) only [go_sem])
    | fail)
   refine r_loopA (α := Nat) [0, 2, 3, 9, 11, 61, 62] (fun a b => [(63, aI a)]) (fun a b => []) (fun a => []) (fun a => a ≤ x.cl.length ∧ allE x.cl o a) (fun a => x.cl.length - a) (0) ?h0_2 ?hs0_2 ?I_2 ?hI_2 ?round_2
   case hI_2 => intro x; (simp -dsimp -implicitDefEqProofs (maxSteps := 1000000) (disch := first | omega | (simp only [LN]; omega)) only [go_sem]) <;> exact rfl
   case hs0_2 => refine wk_auto ?_; (simp -dsimp -implicitDefEqProofs (maxSteps := 1000000) (disch := first | omega | (simp only [LN]; omega)) only [go_sem]) <;> (try omega)
   case h0_2 => exact ⟨Nat.zero_le _, fun j hj => absurd hj (by omega)⟩
   case round_2 =>
    rintro a ⟨a1, a2⟩
    by_cases ha : a < x.cl.length
    ·have hua := hu a ha
     by_cases hn : 0 ≤ (x.cl.getD a default).en → (a : Int) ∈ o
     ·have hn2 : allE x.cl o (a + 1) := fun j hj => by
       rcases Nat.lt_or_ge j a with h4 | h4
       ·exact a2 j h4
       ·obtain rfl : j = a := by omega
        exact hn
      repeat' (first
       | (with_reducible first | refine r_seq ?_ | refine r_block ?_ | refine fork_not ?_ | refine fork_and ?_ | refine fork_or ?_ | refine chk_ok (by kernel_rfl) ?_)
       | ((with_reducible first | refine fork_dec ?_ ?_ | refine fork_eq ?_ ?_ | refine fork_ne ?_ ?_ | refine fork_intro ?_ ?_) <;> intro h <;> try (exfalso; first | omega | exact h rfl | (revert h; decide) | (cases h; done)))
       | ((with_reducible show False); omega)
       | ((first | (with_reducible first | refine r_exit ?_ | refine r_skip ?_ | refine r_cond ?_ | refine r_region ?_ | refine r_ret ?_ | show VX _ _ _ _ _ _ _ | show vstep _ _ _ _ _ | show vskip _ _ _ | show withV _ _) | ((with_reducible show endA _ _ _ _ _ _ _); simp -implicitDefEqProofs only [endA]) | (with_reducible first | refine pick_viewG default (by first | omega | (simp only [LN, used_len, hua]; omega)) (by first | omega | (simp only [LN, used_len, hua]; omega)) ?_ | refine pick_own default (by first | omega | (simp only [LN, used_len, hua]; omega)) ?_ | refine And.intro (by first | decide | omega | assumption | (simp only [LN, used_len, hua]; omega)) ?_) | ((with_reducible show pickE _ _ _); first | refine pickE_intro _ ⟨by omega, by rfl⟩ ?_ | refine pickE_intro _ (by rfl) ?_) | fail); try simp -dsimp -implicitDefEqProofs (maxSteps := 1000000) (disch := first | omega | (simp only [LN, used_len, hua]; omega)) only [go_sem, used_len, hua])
       | fail)
      all_goals first
       | (refine loopQ_next (a + 1) ?_ ?_ ?_; (exact ⟨by omega, hn2⟩); (show _ < _; omega); (simp -dsimp -implicitDefEqProofs (maxSteps := 1000000) (disch := first | omega | (simp only [LN]; omega)) only [go_sem]; try trivial))
       | (exfalso; have h9 := hn (by assumption); contradiction)
     ·have hv : V = 5 := by
       rw [← hV, if_pos]; exact fun hh => hn (hh a ha)
      repeat' (first
       | (with_reducible first | refine r_seq ?_ | refine r_block ?_ | refine fork_not ?_ | refine fork_and ?_ | refine fork_or ?_ | refine chk_ok (by kernel_rfl) ?_)
       | ((with_reducible first | refine fork_dec ?_ ?_ | refine fork_eq ?_ ?_ | refine fork_ne ?_ ?_ | refine fork_intro ?_ ?_) <;> intro h <;> try (exfalso; first | omega | exact h rfl | (revert h; decide) | (cases h; done)))
       | ((with_reducible show False); omega)
       | ((first | (with_reducible first | refine r_exit ?_ | refine r_skip ?_ | refine r_cond ?_ | refine r_region ?_ | refine r_ret ?_ | show VX _ _ _ _ _ _ _ | show vstep _ _ _ _ _ | show vskip _ _ _ | show withV _ _) | ((with_reducible show endA _ _ _ _ _ _ _); simp -implicitDefEqProofs only [endA]) | (with_reducible first | refine pick_viewG default (by first | omega | (simp only [LN, used_len, hua]; omega)) (by first | omega | (simp only [LN, used_len, hua]; omega)) ?_ | refine pick_own default (by first | omega | (simp only [LN, used_len, hua]; omega)) ?_ | refine And.intro (by first | decide | omega | assumption | (simp only [LN, used_len, hua]; omega)) ?_) | ((with_reducible show pickE _ _ _); first | refine pickE_intro _ ⟨by omega, by rfl⟩ ?_ | refine pickE_intro _ (by rfl) ?_) | fail); try simp -dsimp -implicitDefEqProofs (maxSteps := 1000000) (disch := first | omega | (simp only [LN, used_len, hua]; omega)) only [go_sem, used_len, hua])
       | fail)
      all_goals first
       | (rw [hv]; done)
       | (exfalso; exact hn fun _ => by assumption)
       | (exfalso; exact hn fun _ => by omega)
    ·obtain rfl : a = x.cl.length := by omega
     rw [if_neg (fun hh => hh a2)] at hV
     repeat' (first
      | (with_reducible first | refine r_seq ?_ | refine r_block ?_ | refine fork_not ?_ | refine fork_and ?_ | refine fork_or ?_ | refine chk_ok (by kernel_rfl) ?_)
      | ((with_reducible first | refine fork_dec ?_ ?_ | refine fork_eq ?_ ?_ | refine fork_ne ?_ ?_ | refine fork_intro ?_ ?_) <;> intro h <;> try (exfalso; first | omega | exact h rfl | (revert h; decide) | (cases h; done)))
      | ((with_reducible show False); omega)
      | ((first | (with_reducible first | refine r_exit ?_ | refine r_skip ?_ | refine r_cond ?_ | refine r_region ?_ | refine r_ret ?_ | show VX _ _ _ _ _ _ _ | show vstep _ _ _ _ _ | show vskip _ _ _ | show withV _ _) | ((with_reducible show endA _ _ _ _ _ _ _); simp -implicitDefEqProofs only [endA]) | (with_reducible first | refine pick_viewG default (by first | omega | (simp only [LN]; omega)) (by first | omega | (simp only [LN]; omega)) ?_ | refine pick_own default (by first | omega | (simp only [LN]; omega)) ?_ | refine And.intro (by first | decide | omega | assumption | (simp only [LN]; omega)) ?_) | ((with_reducible show pickE _ _ _); first | refine pickE_intro _ ⟨by omega, by rfl⟩ ?_ | refine pickE_intro _ (by rfl) ?_) | fail); try simp -dsimp -implicitDefEqProofs (maxSteps := 1000000) (disch := first | omega | (simp only [LN]; omega)) only [go_sem])
      | fail)
     refine r_loopA (α := Nat) [0, 2, 3, 9, 79, 80] (fun i b => [(16, aI (bgT x.cl o i)), (17, aI (eraT x.cl o i)), (81, aI i)]) (fun i b => []) (fun i => []) (fun i => i ≤ o.length ∧ rtOk x.cl o i) (fun i => o.length - i) (0) ?h0_3 ?hs0_3 ?I_3 ?hI_3 ?round_3
     case hI_3 => intro x; (simp -dsimp -implicitDefEqProofs (maxSteps := 1000000) (disch := first | omega | (simp only [LN]; omega)) only [go_sem]) <;> exact rfl
     case hs0_3 => refine wk_auto ?_; (simp -dsimp -implicitDefEqProofs (maxSteps := 1000000) (disch := first | omega | (simp only [LN, bgT_0, eraT_0]; omega)) only [go_sem, bgT_0, eraT_0]) <;> (try omega)
     case h0_3 => exact ⟨Nat.zero_le _, fun j hj => absurd hj (by omega)⟩
     case round_3 =>
      rintro i ⟨b1, b2⟩
      by_cases hi : i < o.length
      ·obtain ⟨n, hnn, hnl⟩ := hto o.length (Nat.le_refl _) i hi
       have hc : cO x.cl o i = x.cl.getD n default := by unfold cO; rw [hnn]; rfl
       have hbs := bgT_s x.cl o i
       have hes := eraT_s x.cl o i
       by_cases hn : rtB x.cl o i
       ·have hv : V = 8 := by
         rw [← hV, if_pos]; exact fun hh => hh i hi hn
        unfold rtB at hn
        rw [hc] at hn
        repeat' (first
         | (with_reducible first | refine r_seq ?_ | refine r_block ?_ | refine fork_not ?_ | refine fork_and ?_ | refine fork_or ?_ | refine chk_ok (by kernel_rfl) ?_)
         | ((with_reducible first | refine fork_dec ?_ ?_ | refine fork_eq ?_ ?_ | refine fork_ne ?_ ?_ | refine fork_intro ?_ ?_) <;> intro h <;> try (exfalso; first | omega | exact h rfl | (revert h; decide) | (cases h; done)))
         | ((with_reducible show False); omega)
         | ((first | (with_reducible first | refine r_exit ?_ | refine r_skip ?_ | refine r_cond ?_ | refine r_region ?_ | refine r_ret ?_ | show VX _ _ _ _ _ _ _ | show vstep _ _ _ _ _ | show vskip _ _ _ | show withV _ _) | ((with_reducible show endA _ _ _ _ _ _ _); simp -implicitDefEqProofs only [endA]) | (with_reducible first | refine pick_viewG default (by first | omega | (simp only [LN, hnn]; omega)) (by first | omega | (simp only [LN, hnn]; omega)) ?_ | refine pick_own default (by first | omega | (simp only [LN, hnn]; omega)) ?_ | refine And.intro (by first | decide | omega | assumption | (simp only [LN, hnn]; omega)) ?_) | ((with_reducible show pickE _ _ _); first | refine pickE_intro _ ⟨by omega, by rfl⟩ ?_ | refine pickE_intro _ (by rfl) ?_) | fail); try simp -dsimp -implicitDefEqProofs (maxSteps := 1000000) (disch := first | omega | (simp only [LN, hnn]; omega)) only [go_sem, hnn])
         | fail)
        all_goals first
         | (rw [hv]; done)
         | omega
       ·have hn2 : rtOk x.cl o (i + 1) := fun j hj => by
         rcases Nat.lt_or_ge j i with h4 | h4
         ·exact b2 j h4
         ·obtain rfl : j = i := by omega
          exact hn
        unfold rtB at hn
        rw [hc] at hn hbs hes
        repeat' (first
         | (with_reducible first | refine r_seq ?_ | refine r_block ?_ | refine fork_not ?_ | refine fork_and ?_ | refine fork_or ?_ | refine chk_ok (by kernel_rfl) ?_)
         | ((with_reducible first | refine fork_dec ?_ ?_ | refine fork_eq ?_ ?_ | refine fork_ne ?_ ?_ | refine fork_intro ?_ ?_) <;> intro h <;> try (exfalso; first | omega | exact h rfl | (revert h; decide) | (cases h; done)))
         | ((with_reducible show False); omega)
         | ((first | (with_reducible first | refine r_exit ?_ | refine r_skip ?_ | refine r_cond ?_ | refine r_region ?_ | refine r_ret ?_ | show VX _ _ _ _ _ _ _ | show vstep _ _ _ _ _ | show vskip _ _ _ | show withV _ _) | ((with_reducible show endA _ _ _ _ _ _ _); simp -implicitDefEqProofs only [endA]) | (with_reducible first | refine pick_viewG default (by first | omega | (simp only [LN, hnn]; omega)) (by first | omega | (simp only [LN, hnn]; omega)) ?_ | refine pick_own default (by first | omega | (simp only [LN, hnn]; omega)) ?_ | refine And.intro (by first | decide | omega | assumption | (simp only [LN, hnn]; omega)) ?_) | ((with_reducible show pickE _ _ _); first | refine pickE_intro _ ⟨by omega, by rfl⟩ ?_ | refine pickE_intro _ (by rfl) ?_) | fail); try simp -dsimp -implicitDefEqProofs (maxSteps := 1000000) (disch := first | omega | (simp only [LN, hnn]; omega)) only [go_sem, hnn])
         | fail)
        all_goals first
         | omega
         | (refine loopQ_next (i + 1) ?_ ?_ ?_; (exact ⟨by omega, hn2⟩); (show _ < _; omega); (simp -dsimp -implicitDefEqProofs (maxSteps := 1000000) (disch := first | omega | (simp only [LN, hbs, hes]; omega)) only [go_sem, hbs, hes]; try trivial))
      ·obtain rfl : i = o.length := by omega
       rw [if_neg (fun hh => hh b2)] at hV
       repeat' (first
        | (with_reducible first | refine r_seq ?_ | refine r_block ?_ | refine fork_not ?_ | refine fork_and ?_ | refine fork_or ?_ | refine chk_ok (by kernel_rfl) ?_)
        | ((with_reducible first | refine fork_dec ?_ ?_ | refine fork_eq ?_ ?_ | refine fork_ne ?_ ?_ | refine fork_intro ?_ ?_) <;> intro h <;> try (exfalso; first | omega | exact h rfl | (revert h; decide) | (cases h; done)))
        | ((with_reducible show False); omega)
        | ((first | (with_reducible first | refine r_exit ?_ | refine r_skip ?_ | refine r_cond ?_ | refine r_region ?_ | refine r_ret ?_ | show VX _ _ _ _ _ _ _ | show vstep _ _ _ _ _ | show vskip _ _ _ | show withV _ _) | ((with_reducible show endA _ _ _ _ _ _ _); simp -implicitDefEqProofs only [endA]) | (with_reducible first | refine pick_viewG default (by first | omega | (simp only [LN]; omega)) (by first | omega | (simp only [LN]; omega)) ?_ | refine pick_own default (by first | omega | (simp only [LN]; omega)) ?_ | refine And.intro (by first | decide | omega | assumption | (simp only [LN]; omega)) ?_) | ((with_reducible apply callK_pure); (exact c8)) | ((with_reducible apply callF_lend); (exact c8); rfl) | ((with_reducible apply callF_go); (exact c8)) | ((with_reducible show pickE _ _ _); first | refine pickE_intro _ ⟨by omega, by rfl⟩ ?_ | refine pickE_intro _ (by rfl) ?_) | fail); try simp -dsimp -implicitDefEqProofs (maxSteps := 1000000) (disch := first | omega | (simp only [LN]; omega)) only [go_sem])
        | fail)
       refine r_loopA (α := Nat) [3, 9, 21, 115, 116] (fun i b => [(117, aI i)]) (fun i b => [(21, .var (cS (stT k x.cl o i)))]) (fun i => []) (fun i => i ≤ o.length ∧ resOk k x.cl o i) (fun i => o.length - i) (0) ?h0_4 ?hs0_4 ?I_4 ?hI_4 ?round_4
       case hI_4 => intro x; (simp -dsimp -implicitDefEqProofs (maxSteps := 1000000) (disch := first | omega | (simp only [LN]; omega)) only [go_sem]) <;> exact rfl
       case hs0_4 => refine wk_auto ?_; (simp -dsimp -implicitDefEqProofs (maxSteps := 1000000) (disch := first | omega | (simp only [LN, cS, stT_0]; omega)) only [go_sem, cS, stT_0]) <;> (try omega)
       case h0_4 => exact ⟨Nat.zero_le _, fun j hj => absurd hj (by omega)⟩
       case round_4 =>
        rintro i ⟨d1, d2⟩
        have hok := ok_st hk.1 hro h2 i d1
        have hok1 := hok.inv.ps
        have hok2 := hok.inv.vs
        have hcl := Sp.cont_len hok.inv
        by_cases hi : i < o.length
        ·obtain ⟨n, hnn, hnl⟩ := hto o.length (Nat.le_refl _) i hi
         have hc : cO x.cl o i = x.cl.getD n default := by unfold cO; rw [hnn]; rfl
         have hss := stT_s k x.cl o i
         have k12 := Sp.c12 (stT k x.cl o i) (opC (x.cl.getD n default)) (Sp.sorted_pl.2 hok.inv.srt) (by omega) (by omega)
         rw [hc] at hss
         obtain ⟨T, hT⟩ : ∃ T, Sp.applyM (stT k x.cl o i) (opC (x.cl.getD n default)) = T := ⟨_, rfl⟩
         rw [hT] at k12 hss
         by_cases hn : resP k x.cl o i
         ·have hn2 : resOk k x.cl o (i + 1) := fun j hj => by
           rcases Nat.lt_or_ge j i with h4 | h4
           ·exact d2 j h4
           ·obtain rfl : j = i := by omega
            exact hn
          unfold resP at hn
          rw [hc, hT] at hn
          unfold eqR resC at hn
          unfold opC at k12
          repeat' (first
           | (with_reducible first | refine r_seq ?_ | refine r_block ?_ | refine fork_not ?_ | refine fork_and ?_ | refine fork_or ?_ | refine chk_ok (by kernel_rfl) ?_)
           | ((with_reducible first | refine fork_dec ?_ ?_ | refine fork_eq ?_ ?_ | refine fork_ne ?_ ?_ | refine fork_intro ?_ ?_) <;> intro h <;> try (exfalso; first | omega | exact h rfl | (revert h; decide) | (cases h; done)))
           | ((with_reducible show False); omega)
           | ((first | (with_reducible first | refine r_exit ?_ | refine r_skip ?_ | refine r_cond ?_ | refine r_region ?_ | refine r_ret ?_ | show VX _ _ _ _ _ _ _ | show vstep _ _ _ _ _ | show vskip _ _ _ | show withV _ _) | ((with_reducible show endA _ _ _ _ _ _ _); simp -implicitDefEqProofs only [endA]) | (with_reducible first | refine pick_viewG default (by first | omega | (simp only [LN, hnn, cS]; omega)) (by first | omega | (simp only [LN, hnn, cS]; omega)) ?_ | refine pick_own default (by first | omega | (simp only [LN, hnn, cS]; omega)) ?_ | refine And.intro (by first | decide | omega | assumption | (simp only [LN, hnn, cS]; omega)) ?_) | ((with_reducible apply callK_pure); (exact k12)) | ((with_reducible apply callF_lend); (exact k12); rfl) | ((with_reducible apply callF_go); (exact k12)) | ((with_reducible show pickE _ _ _); first | refine pickE_intro _ ⟨by omega, by rfl⟩ ?_ | refine pickE_intro _ (by rfl) ?_) | fail); try simp -dsimp -implicitDefEqProofs (maxSteps := 1000000) (disch := first | omega | (simp only [LN, hnn, cS]; omega)) only [go_sem, hnn, cS])
           | fail)
          all_goals first
           | (refine loopQ_next (i + 1) ?_ ?_ ?_; (exact ⟨by omega, hn2⟩); (show _ < _; omega); (simp -dsimp -implicitDefEqProofs (maxSteps := 1000000) (disch := first | omega | (simp only [LN, hss, cS]; omega)) only [go_sem, hss, cS]; try trivial))
           | (exfalso; have h9 := hn (by assumption); dsimp only at h9; first | exact absurd h9.1 (by assumption) | exact absurd h9.2.1 (by assumption) | exact absurd h9.2.2 (by assumption))
         ·have hv : V = 16 := by
           rw [← hV, if_pos]; exact fun hh => hn (hh i hi)
          unfold resP at hn
          rw [hc, hT] at hn
          unfold eqR resC at hn
          unfold opC at k12
          repeat' (first
           | (with_reducible first | refine r_seq ?_ | refine r_block ?_ | refine fork_not ?_ | refine fork_and ?_ | refine fork_or ?_ | refine chk_ok (by kernel_rfl) ?_)
           | ((with_reducible first | refine fork_dec ?_ ?_ | refine fork_eq ?_ ?_ | refine fork_ne ?_ ?_ | refine fork_intro ?_ ?_) <;> intro h <;> try (exfalso; first | omega | exact h rfl | (revert h; decide) | (cases h; done)))
           | ((with_reducible show False); omega)
           | ((first | (with_reducible first | refine r_exit ?_ | refine r_skip ?_ | refine r_cond ?_ | refine r_region ?_ | refine r_ret ?_ | show VX _ _ _ _ _ _ _ | show vstep _ _ _ _ _ | show vskip _ _ _ | show withV _ _) | ((with_reducible show endA _ _ _ _ _ _ _); simp -implicitDefEqProofs only [endA]) | (with_reducible first | refine pick_viewG default (by first | omega | (simp only [LN, hnn, cS]; omega)) (by first | omega | (simp only [LN, hnn, cS]; omega)) ?_ | refine pick_own default (by first | omega | (simp only [LN, hnn, cS]; omega)) ?_ | refine And.intro (by first | decide | omega | assumption | (simp only [LN, hnn, cS]; omega)) ?_) | ((with_reducible apply callK_pure); (exact k12)) | ((with_reducible apply callF_lend); (exact k12); rfl) | ((with_reducible apply callF_go); (exact k12)) | ((with_reducible show pickE _ _ _); first | refine pickE_intro _ ⟨by omega, by rfl⟩ ?_ | refine pickE_intro _ (by rfl) ?_) | fail); try simp -dsimp -implicitDefEqProofs (maxSteps := 1000000) (disch := first | omega | (simp only [LN, hnn, cS]; omega)) only [go_sem, hnn, cS])
           | fail)
          all_goals first
           | (rw [hv]; done)
           | (exfalso; exact hn fun _ => ⟨by assumption, by assumption, by assumption⟩)
           | (exfalso; exact hn fun _ => by omega)
        ·obtain rfl : i = o.length := by omega
         rw [if_neg (fun hh => hh d2)] at hV
         have k13 := Sp.c13 (stT k x.cl o o.length) (by omega) (by omega)
         have k31 := Sp.c24 (Sp.contM (stT k x.cl o o.length)) fin
         by_cases hn : Sp.contM (stT k x.cl o o.length) = fin
         ·rw [if_neg (fun hh => hh hn)] at hV
          subst hV
          repeat' (first
           | (with_reducible first | refine r_seq ?_ | refine r_block ?_ | refine fork_not ?_ | refine fork_and ?_ | refine fork_or ?_ | refine chk_ok (by kernel_rfl) ?_)
           | ((with_reducible first | refine fork_dec ?_ ?_ | refine fork_eq ?_ ?_ | refine fork_ne ?_ ?_ | refine fork_intro ?_ ?_) <;> intro h <;> try (exfalso; first | omega | exact h rfl | (revert h; decide) | (cases h; done)))
           | ((with_reducible show False); omega)
           | ((first | (with_reducible first | refine r_exit ?_ | refine r_skip ?_ | refine r_cond ?_ | refine r_region ?_ | refine r_ret ?_ | show VX _ _ _ _ _ _ _ | show vstep _ _ _ _ _ | show vskip _ _ _ | show withV _ _) | ((with_reducible show endA _ _ _ _ _ _ _); simp -implicitDefEqProofs only [endA]) | (with_reducible first | refine pick_viewG default (by first | omega | (simp only [LN, cS]; omega)) (by first | omega | (simp only [LN, cS]; omega)) ?_ | refine pick_own default (by first | omega | (simp only [LN, cS]; omega)) ?_ | refine And.intro (by first | decide | omega | assumption | (simp only [LN, cS]; omega)) ?_) | ((with_reducible apply callK_pure); (first | exact k13 | exact k31 | fail)) | ((with_reducible apply callF_lend); (first | exact k13 | exact k31 | fail); rfl) | ((with_reducible apply callF_go); (first | exact k13 | exact k31 | fail)) | ((with_reducible show pickE _ _ _); first | refine pickE_intro _ ⟨by omega, by rfl⟩ ?_ | refine pickE_intro _ (by rfl) ?_) | fail); try simp -dsimp -implicitDefEqProofs (maxSteps := 1000000) (disch := first | omega | (simp only [LN, cS]; omega)) only [go_sem, cS])
           | fail)
          all_goals first | rfl | (exact absurd hn (by assumption)) | ((repeat' (first | rfl | apply And.intro | apply Or.inl)); done)
         ·rw [if_pos hn] at hV
          subst hV
          repeat' (first
           | (with_reducible first | refine r_seq ?_ | refine r_block ?_ | refine fork_not ?_ | refine fork_and ?_ | refine fork_or ?_ | refine chk_ok (by kernel_rfl) ?_)
           | ((with_reducible first | refine fork_dec ?_ ?_ | refine fork_eq ?_ ?_ | refine fork_ne ?_ ?_ | refine fork_intro ?_ ?_) <;> intro h <;> try (exfalso; first | omega | exact h rfl | (revert h; decide) | (cases h; done)))
           | ((with_reducible show False); omega)
           | ((first | (with_reducible first | refine r_exit ?_ | refine r_skip ?_ | refine r_cond ?_ | refine r_region ?_ | refine r_ret ?_ | show VX _ _ _ _ _ _ _ | show vstep _ _ _ _ _ | show vskip _ _ _ | show withV _ _) | ((with_reducible show endA _ _ _ _ _ _ _); simp -implicitDefEqProofs only [endA]) | (with_reducible first | refine pick_viewG default (by first | omega | (simp only [LN, cS]; omega)) (by first | omega | (simp only [LN, cS]; omega)) ?_ | refine pick_own default (by first | omega | (simp only [LN, cS]; omega)) ?_ | refine And.intro (by first | decide | omega | assumption | (simp only [LN, cS]; omega)) ?_) | ((with_reducible apply callK_pure); (first | exact k13 | exact k31 | fail)) | ((with_reducible apply callF_lend); (first | exact k13 | exact k31 | fail); rfl) | ((with_reducible apply callF_go); (first | exact k13 | exact k31 | fail)) | ((with_reducible show pickE _ _ _); first | refine pickE_intro _ ⟨by omega, by rfl⟩ ?_ | refine pickE_intro _ (by rfl) ?_) | fail); try simp -dsimp -implicitDefEqProofs (maxSteps := 1000000) (disch := first | omega | (simp only [LN, cS]; omega)) only [go_sem, cS])
           | fail)
          all_goals first | rfl | (exact absurd (by assumption) hn) | ((repeat' (first | rfl | apply And.intro | apply Or.inl)); done)
end Go.Proofs.YtpcjeaaplidmaaaDoor