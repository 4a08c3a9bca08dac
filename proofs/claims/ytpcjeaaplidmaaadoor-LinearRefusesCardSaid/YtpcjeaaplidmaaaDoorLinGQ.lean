/- Contracts of functions of this program, and the plain facts that they rest on. No conditions. -/
import Derived.Test.YtpcjeaaplidmaaaDoorLinFQ
set_option linter.unusedSimpArgs false
set_option linter.unusedVariables false
namespace Go.Proofs.YtpcjeaaplidmaaaDoor
open Go Go.Ab
attribute [local irreducible] callK callF loopQ vstep vskip pickE hideP
open Go.RowKit
set_option maxRecDepth 100000
attribute [local go_sem] Hi.eC Hi.hc Hi.hP
def eI (n : Int) : PV := .v (.int .i64 n)
def eB (b : Bool) : PV := .v (.bool b)
attribute [local go_sem] eI eB
def inR (N : Nat) (o : List Int) (k : Nat) : Prop := ∀ j, j < k → (0 ≤ o.getD j default ∧ o.getD j default < N) ∧ ∀ m, m < j → o.getD m default ≠ o.getD j default
instance (N : Nat) (o : List Int) (k : Nat) : Decidable (inR N o k) := by unfold inR; exact inferInstance
def usedL (N : Nat) (o : List Int) (k : Nat) : List Bool := (List.range N).map fun (a : Nat) => decide ((a : Int) ∈ o.take k)
def allE (l : List Hi.C) (o : List Int) (k : Nat) : Prop := ∀ a, a < k → 0 ≤ (l.getD a default).en → (a : Int) ∈ o
instance (l : List Hi.C) (o : List Int) (k : Nat) : Decidable (allE l o k) := by unfold allE; exact inferInstance
def cO (l : List Hi.C) (o : List Int) (i : Nat) : Hi.C := l.getD (o.getD i default).toNat default
def bgT (l : List Hi.C) (o : List Int) : Nat → Int
 | 0 => -1
 | i + 1 => max (bgT l o i) (cO l o i).bg
def eraT (l : List Hi.C) (o : List Int) : Nat → Int
 | 0 => -1
 | i + 1 => max (eraT l o i) (cO l o i).era
def rtB (l : List Hi.C) (o : List Int) (i : Nat) : Prop := (cO l o i).era < eraT l o i ∨ (0 ≤ (cO l o i).en ∧ (cO l o i).en < bgT l o i)
instance (l : List Hi.C) (o : List Int) (i : Nat) : Decidable (rtB l o i) := by unfold rtB; exact inferInstance
def rtOk (l : List Hi.C) (o : List Int) (k : Nat) : Prop := ∀ i, i < k → ¬ rtB l o i
instance (l : List Hi.C) (o : List Int) (k : Nat) : Decidable (rtOk l o k) := by unfold rtOk; exact inferInstance
def stT (k : Int) (l : List Hi.C) (o : List Int) : Nat → Sp.S
 | 0 => ini k
 | i + 1 => (Sp.applyM (stT k l o i) (opC (cO l o i))).1
def resP (k : Int) (l : List Hi.C) (o : List Int) (i : Nat) : Prop := 0 ≤ (cO l o i).en → eqR (Sp.applyM (stT k l o i) (opC (cO l o i))).2 (resC (cO l o i))
instance (k : Int) (l : List Hi.C) (o : List Int) (i : Nat) : Decidable (resP k l o i) := by unfold resP; exact inferInstance
def resOk (k : Int) (l : List Hi.C) (o : List Int) (n : Nat) : Prop := ∀ i, i < n → resP k l o i
instance (k : Int) (l : List Hi.C) (o : List Int) (n : Nat) : Decidable (resOk k l o n) := by unfold resOk; exact inferInstance
def verM (k : Int) (l : List Hi.C) (o : List Int) (fin : LP) : Int :=
 if examE k l ≠ 0 then examE k l else if ¬ inR l.length o o.length then 2 else if ¬ allE l o l.length then 5 else if ¬ rtOk l o o.length then 8 else if ¬ resOk k l o o.length then 16 else if ¬ Sp.contM (stT k l o o.length) = fin then 11 else 0
theorem used_get {N : Nat} {o : List Int} {k a : Nat} (h : a < N) : (usedL N o k).getD a default = decide ((a : Int) ∈ o.take k) := by
 unfold usedL
 rw [List.getD_eq_getElem?_getD, List.getElem?_map, List.getElem?_range h]; rfl
theorem used_len (N : Nat) (o : List Int) (k : Nat) : (usedL N o k).length = N := by simp [usedL]
theorem used_0 (N : Nat) (o : List Int) : List.replicate N (PV.v (.bool false)) = (usedL N o 0).map eB := by
 unfold usedL
 rw [List.map_map]
 apply List.ext_getElem (by simp)
 intro i h1 h2
 simp [eB]
theorem used_set {N : Nat} {o : List Int} {k n : Nat} (hk : k < o.length) (hn : o.getD k default = (n : Int)) : (usedL N o k).set n true = usedL N o (k + 1) := by
 apply List.ext_getElem (by simp [usedL])
 intro i h1 h2
 rw [List.getElem_set]
 have ht : o.take (k + 1) = o.take k ++ [(n : Int)] := by rw [take_getD default hk, hn]
 simp only [usedL, List.getElem_map, List.getElem_range]
 rw [ht]
 by_cases e : n = i
 ·subst e; rw [if_pos rfl]; simp
 ·rw [if_neg e]
  refine decide_eq_decide.2 ?_
  rw [List.mem_append, List.mem_singleton]
  refine ⟨.inl, fun h => h.resolve_right fun h2 => e ?_⟩
  omega
theorem mem_take {o : List Int} {k : Nat} {x : Int} (hk : k ≤ o.length) : x ∈ o.take k ↔ ∃ m, m < k ∧ o.getD m default = x := by
 constructor
 ·intro h
  obtain ⟨m, hm, rfl⟩ := List.mem_iff_getElem.1 h
  have h1 : m < k := by rw [List.length_take] at hm; omega
  refine ⟨m, h1, ?_⟩
  rw [List.getElem_take, Hi.getD_get o m default (by omega)]
 ·rintro ⟨m, hm, rfl⟩
  rw [Hi.getD_get o m default (by omega)]
  exact List.mem_iff_getElem.2 ⟨m, by rw [List.length_take]; omega, by rw [List.getElem_take]⟩
theorem ok_st {k : Int} {l : List Hi.C} {o : List Int} (hk : Sp.newK k = k) (hro : ∀ i, i < l.length → RngO (opC (l.getD i default))) (hin : inR l.length o o.length) : ∀ i, i ≤ o.length → OkS (stT k l o i) i
 | 0, _ => ok_ini k hk
 | i + 1, h => by
  have h1 := ok_st hk hro hin i (by omega)
  have h2 := (hin i (by omega)).1
  exact ok_apply h1 (hro _ (by omega))
theorem bgT_0 (l : List Hi.C) (o : List Int) : bgT l o 0 = -1 := rfl
theorem eraT_0 (l : List Hi.C) (o : List Int) : eraT l o 0 = -1 := rfl
theorem bgT_s (l : List Hi.C) (o : List Int) (i : Nat) : bgT l o (i + 1) = max (bgT l o i) (cO l o i).bg := rfl
theorem eraT_s (l : List Hi.C) (o : List Int) (i : Nat) : eraT l o (i + 1) = max (eraT l o i) (cO l o i).era := rfl
theorem stT_0 (k : Int) (l : List Hi.C) (o : List Int) : stT k l o 0 = ini k := rfl
theorem stT_s (k : Int) (l : List Hi.C) (o : List Int) (i : Nat) : stT k l o (i + 1) = (Sp.applyM (stT k l o i) (opC (cO l o i))).1 := rfl
def cS (s : Sp.S) : List AV := [.p (.v (.int .u8 s.k)), .p (.v (.int .u64 s.n)), .p (.view 2 (s.ps.map Sp.eP)), .p (.view 1 (s.vs.map Sp.eV))]
attribute [local irreducible] usedL bgT eraT stT
set_option maxRecDepth 100000 in
set_option maxHeartbeats 4000000 in
theorem c19n (k : Int) (o : List Int) (fin : LP) : PCalls Tryd.prog 19 [.v (.int .u8 k), .v (.pointer none), .view 1 (o.map eI), .view 2 (fin.map Sp.eP)] (.v (.int .i64 1)) := by
 refine pcalls_facts ⟨_, rfl, rfl, by decide⟩ fun hf => ?_
 simp only [go_sem, big] at hf
 refine pcalls_of (E := E) (fn := Tryd.f19) 152 [.tmp 8] rfl rfl rfl rfl (by decide) rfl ?_
 repeat' (first
  | (with_reducible first | refine r_seq ?_ | refine r_block ?_ | refine fork_not ?_ | refine fork_and ?_ | refine fork_or ?_ | refine chk_ok (by kernel_rfl) ?_)
  | ((with_reducible first | refine fork_dec ?_ ?_ | refine fork_eq ?_ ?_ | refine fork_ne ?_ ?_ | refine fork_intro ?_ ?_) <;> intro h <;> try (exfalso; first | omega | exact h rfl | (revert h; decide) | (cases h; done)))
  | ((with_reducible show False); omega)
  | ((first | (with_reducible first | refine r_exit ?_ | refine r_skip ?_ | refine r_cond ?_ | refine r_region ?_ | refine r_ret ?_ | show VX _ _ _ _ _ _ _ | show vstep _ _ _ _ _ | show vskip _ _ _ | show withV _ _) | ((with_reducible show endA _ _ _ _ _ _ _); simp -implicitDefEqProofs only [endA]) | (with_reducible first | refine pick_viewG default (by first | omega | (simp only [LN]; omega)) (by first | omega | (simp only [LN]; omega)) ?_ | refine pick_own default (by first | omega | (simp only [LN]; omega)) ?_ | refine And.intro (by first | decide | omega | assumption | (simp only [LN]; omega)) ?_) | ((with_reducible apply callK_pure); (exact c35n k)) | ((with_reducible apply callF_lend); (exact c35n k); rfl) | ((with_reducible apply callF_go); (exact c35n k)) | ((with_reducible show pickE _ _ _); first | refine pickE_intro _ ⟨by omega, by rfl⟩ ?_ | refine pickE_intro _ (by rfl) ?_) | fail); try simp -dsimp -implicitDefEqProofs (maxSteps := 1000000) (disch := first | omega | (simp only [LN]; omega)) only [go_sem])
  | fail)
 all_goals first | rfl | omega
set_option maxRecDepth 100000 in
set_option maxHeartbeats 4000000 in
theorem c19 (k : Int) (x : Hi.H) (o : List Int) (fin : LP) (hl : x.cl.length ≤ 1000) (ho : o.length ≤ 1000) (h : examE k x.cl = 0) (hro : ∀ i, i < x.cl.length → RngO (opC (x.cl.getD i default))) : PCalls Tryd.prog 19 [.v (.int .u8 k), Hi.hP x, .view 1 (o.map eI), .view 2 (fin.map Sp.eP)] (.v (.int .i64 (verM k x.cl o fin))) := by
 refine pcalls_facts ⟨_, rfl, rfl, by decide⟩ fun hf => ?_
 simp only [go_sem, big] at hf
 refine pcalls_of (E := E) (fn := Tryd.f19) 152 [.tmp 8] rfl rfl rfl rfl (by decide) rfl ?_
 have hk := exam_k h
 have c35 := c35 k x (by omega)
 rw [h, if_pos rfl] at c35
 have c8 := c8S k
 obtain ⟨V, hV⟩ : ∃ V, verM k x.cl o fin = V := ⟨_, rfl⟩
 rw [hV]
 unfold verM at hV
 rw [if_neg (fun hh => hh h)] at hV
 have hV2 : ∀ i, i ≤ o.length → ¬ inR x.cl.length o i → V = 2 := fun i hi hn => by
  rw [← hV, if_pos]; exact fun hh => hn fun j hj => hh j (by omega)
 repeat' (first
  | (with_reducible first | refine r_seq ?_ | refine r_block ?_ | refine fork_not ?_ | refine fork_and ?_ | refine fork_or ?_ | refine chk_ok (by kernel_rfl) ?_)
  | ((with_reducible first | refine fork_dec ?_ ?_ | refine fork_eq ?_ ?_ | refine fork_ne ?_ ?_ | refine fork_intro ?_ ?_) <;> intro h <;> try (exfalso; first | omega | exact h rfl | (revert h; decide) | (cases h; done)))
  | ((with_reducible show False); omega)
  | ((first | (with_reducible first | refine r_exit ?_ | refine r_skip ?_ | refine r_cond ?_ | refine r_region ?_ | refine r_ret ?_ | show VX _ _ _ _ _ _ _ | show vstep _ _ _ _ _ | show vskip _ _ _ | show withV _ _) | ((with_reducible show endA _ _ _ _ _ _ _); simp -implicitDefEqProofs only [endA]) | (with_reducible first | refine pick_viewG default (by first | omega | (simp only [LN]; omega)) (by first | omega | (simp only [LN]; omega)) ?_ | refine pick_own default (by first | omega | (simp only [LN]; omega)) ?_ | refine And.intro (by first | decide | omega | assumption | (simp only [LN]; omega)) ?_) | ((with_reducible apply callK_pure); (exact c35)) | ((with_reducible apply callF_lend); (exact c35); rfl) | ((with_reducible apply callF_go); (exact c35)) | ((with_reducible show pickE _ _ _); first | refine pickE_intro _ ⟨by omega, by rfl⟩ ?_ | refine pickE_intro _ (by rfl) ?_) | fail); try simp -dsimp -implicitDefEqProofs (maxSteps := 1000000) (disch := first | omega | (simp only [LN]; omega)) only [go_sem])
  | fail)
 refine r_loopA (α := Nat) [0, 2, 3, 9, 11, 37, 38] (fun i b => [(39, aI i)]) (fun i b => [(11, .arr 1 ((usedL x.cl.length o i).map eB))]) (fun i => []) (fun i => i ≤ o.length ∧ inR x.cl.length o i) (fun i => o.length - i) (0) ?h0_1 ?hs0_1 ?I_1 ?hI_1 ?round_1
 case hI_1 => intro x; (simp -dsimp -implicitDefEqProofs (maxSteps := 1000000) (disch := first | omega | (simp only [LN]; omega)) only [go_sem]) <;> exact rfl
 case hs0_1 => refine wk_auto ?_; (simp -dsimp -implicitDefEqProofs (maxSteps := 1000000) (disch := first | omega | (simp only [LN, used_0 _ o]; omega)) only [go_sem, used_0 _ o]) <;> (try omega)
 case h0_1 => exact ⟨Nat.zero_le _, fun j hj => absurd hj (by omega)⟩
 case round_1 =>
  rintro i ⟨h1, h2⟩
  by_cases hi : i < o.length
  ·by_cases hn : inR x.cl.length o (i + 1)
   ·have hn1 := (hn i (by omega)).1
    have hn2 := (hn i (by omega)).2
    obtain ⟨n, hnn⟩ := Int.eq_ofNat_of_zero_le hn1.1
    have hu : (usedL x.cl.length o i).getD n default = false := by
     rw [used_get (by omega), decide_eq_false_iff_not, mem_take (by omega)]
     rintro ⟨m, hm, h3⟩
     exact hn2 m hm (by rw [h3, hnn])
    have hs := used_set (N := x.cl.length) hi hnn
    repeat' (first
     | (with_reducible first | refine r_seq ?_ | refine r_block ?_ | refine fork_not ?_ | refine fork_and ?_ | refine fork_or ?_ | refine chk_ok (by kernel_rfl) ?_)
     | ((with_reducible first | refine fork_dec ?_ ?_ | refine fork_eq ?_ ?_ | refine fork_ne ?_ ?_ | refine fork_intro ?_ ?_) <;> intro h <;> try (exfalso; first | omega | exact h rfl | (revert h; decide) | (cases h; done)))
     | ((with_reducible show False); omega)
     | ((first | (with_reducible first | refine r_exit ?_ | refine r_skip ?_ | refine r_cond ?_ | refine r_region ?_ | refine r_ret ?_ | show VX _ _ _ _ _ _ _ | show vstep _ _ _ _ _ | show vskip _ _ _ | show withV _ _) | ((with_reducible show endA _ _ _ _ _ _ _); simp -implicitDefEqProofs only [endA]) | (with_reducible first | refine pick_viewG default (by first | omega | (simp only [LN, used_len, hnn, hu]; omega)) (by first | omega | (simp only [LN, used_len, hnn, hu]; omega)) ?_ | refine pick_own default (by first | omega | (simp only [LN, used_len, hnn, hu]; omega)) ?_ | refine And.intro (by first | decide | omega | assumption | (simp only [LN, used_len, hnn, hu]; omega)) ?_) | ((with_reducible show pickE _ _ _); first | refine pickE_intro _ ⟨by omega, by rfl⟩ ?_ | refine pickE_intro _ (by rfl) ?_) | fail); try simp -dsimp -implicitDefEqProofs (maxSteps := 1000000) (disch := first | omega | (simp only [LN, used_len, hnn, hu]; omega)) only [go_sem, used_len, hnn, hu])
     | fail)
    (refine loopQ_next (i + 1) ?_ ?_ ?_; (exact ⟨by omega, hn⟩); (show _ < _; omega); (simp -dsimp -implicitDefEqProofs (maxSteps := 1000000) (disch := first | omega | (simp only [LN, ← hs, List.map_set]; omega)) only [go_sem, ← hs, List.map_set]; try trivial))
   ·have hv := hV2 (i + 1) (by omega) hn
    have key : ∀ (g1 : ¬ o.getD i default < 0) (g2 : ¬ o.getD i default ≥ x.cl.length) (g3 : (usedL x.cl.length o i).getD (o.getD i default).toNat default = false), False := fun g1 g2 g3 => by
     refine hn fun j hj => ?_
     rcases Nat.lt_or_ge j i with h4 | h4
     ·exact h2 j h4
     ·obtain rfl : j = i := by omega
      refine ⟨by omega, fun m hm h5 => ?_⟩
      rw [used_get (by omega), decide_eq_false_iff_not, mem_take (by omega)] at g3
      exact g3 ⟨m, hm, by omega⟩
    repeat' (first
     | (with_reducible first | refine r_seq ?_ | refine r_block ?_ | refine fork_not ?_ | refine fork_and ?_ | refine fork_or ?_ | refine chk_ok (by kernel_rfl) ?_)
     | ((with_reducible first | refine fork_dec ?_ ?_ | refine fork_eq ?_ ?_ | refine fork_ne ?_ ?_ | refine fork_intro ?_ ?_) <;> intro h <;> try (exfalso; first | omega | exact h rfl | (revert h; decide) | (cases h; done)))
     | ((with_reducible show False); omega)
     | ((first | (with_reducible first | refine r_exit ?_ | refine r_skip ?_ | refine r_cond ?_ | refine r_region ?_ | refine r_ret ?_ | show VX _ _ _ _ _ _ _ | show vstep _ _ _ _ _ | show vskip _ _ _ | show withV _ _) | ((with_reducible show endA _ _ _ _ _ _ _); simp -implicitDefEqProofs only [endA]) | (with_reducible first | refine pick_viewG default (by first | omega | (simp only [LN, used_len]; omega)) (by first | omega | (simp only [LN, used_len]; omega)) ?_ | refine pick_own default (by first | omega | (simp only [LN, used_len]; omega)) ?_ | refine And.intro (by first | decide | omega | assumption | (simp only [LN, used_len]; omega)) ?_) | ((with_reducible show pickE _ _ _); first | refine pickE_intro _ ⟨by omega, by rfl⟩ ?_ | refine pickE_intro _ (by rfl) ?_) | fail); try simp -dsimp -implicitDefEqProofs (maxSteps := 1000000) (disch := first | omega | (simp only [LN, used_len]; omega)) only [go_sem, used_len])
     | fail)
    all_goals first
     | (rw [hv]; done)
     | (exfalso; refine key ?_ ?_ ?_ <;> assumption)
  ·obtain rfl : i = o.length := by omega
   rw [if_neg (fun hh => hh h2)] at hV
   have hto : ∀ n, n ≤ o.length → ∀ j, j < n → ∃ a : Nat, o.getD j default = (a : Int) ∧ a < x.cl.length := fun n hn j hj => by
    have := (h2 j (by omega)).1
    exact ⟨(o.getD j default).toNat, by omega, by omega⟩
   have hu : ∀ a, a < x.cl.length → (usedL x.cl.length o o.length).getD a default = decide ((a : Int) ∈ o) := fun a ha => by rw [used_get ha, List.take_length]
   repeat' (first
    | (with_reducible first | refine r_seq ?_ | refine r_block ?_ | refine fork_not ?_ | refine fork_and ?_ | refine fork_or ?_ | refine chk_ok (by kernel_rfl) ?_)
    | ((with_reducible first | refine fork_dec ?_ ?_ | refine fork_eq ?_ ?_ | refine fork_ne ?_ ?_ | refine fork_intro ?_ ?_) <;> intro h <;> try (exfalso; first | omega | exact h rfl | (revert h; decide) | (cases h; done)))
    | ((with_reducible show False); omega)
    | ((first | (with_reducible first | refine r_exit ?_ | refine r_skip ?_ | refine r_cond ?_ | refine r_region ?_ | refine r_ret ?_ | show VX _ _ _ _ _ _ _ | show vstep _ _ _ _ _ | show vskip _ _ _ | show withV _ _) | ((with_reducible show endA _ _ _ _ _ _ _); simp -implicitDefEqProofs only [endA]) | (with_reducible first | refine pick_viewG default (by first | omega | (simp only [LN]; omega)) (by first | omega | (simp only [LN]; omega)) ?_ | refine pick_own default (by first | omega | (simp only [LN]; omega)) ?_ | refine And.intro (by first | decide | omega | assumption | (simp only [LN]; omega)) ?_) | ((with_reducible show pickE _ _ _); first | refine pickE_intro _ ⟨by omega, by rfl⟩ ?_ | refine pickE_intro _ (by rfl) ?_) | fail); try simp -dsimp -implicitDefEqProofs (maxSteps := 1000000) (disch := first | omega | (simp only [LN]; omega)) only [go_sem])
    | fail)
   refine r_loopA (α := Nat) [0, 2, 3, 9, 11, 61, 62] (fun a b => [(63, aI a)]) (fun a b => []) (fun a => []) (fun a => a ≤ x.cl.length ∧ allE x.cl o a) (fun a => x.cl.length - a) (0) ?h0_2 ?hs0_2 ?I_2 ?hI_2 ?round_2
   case hI_2 => intro x; (simp -dsimp -implicitDefEqProofs (maxSteps := 1000000) (disch := first | omega | (simp only [LN]; omega)) only [go_sem]) <;> exact rfl
   case hs0_2 => refine wk_auto ?_; (simp -dsimp -implicitDefEqProofs (maxSteps := 1000000) (disch := first | omega | (simp only [LN]; omega)) only [go_sem]) <;> (try omega)
   case h0_2 => exact ⟨Nat.zero_le _, fun j hj => absurd hj (by omega)⟩
   case round_2 =>
    rintro a ⟨a1, a2⟩
    by_cases ha : a < x.cl.length
    ·have hua := hu a ha
     by_cases hn : 0 ≤ (x.cl.getD a default).en → (a : Int) ∈ o
     ·have hn2 : allE x.cl o (a + 1) := fun j hj => by
       rcases Nat.lt_or_ge j a with h4 | h4
       ·exact a2 j h4
       ·obtain rfl : j = a := by omega
        exact hn
      repeat' (first
       | (with_reducible first | refine r_seq ?_ | refine r_block ?_ | refine fork_not ?_ | refine fork_and ?_ | refine fork_or ?_ | refine chk_ok (by kernel_rfl) ?_)
       | ((with_reducible first | refine fork_dec ?_ ?_ | refine fork_eq ?_ ?_ | refine fork_ne ?_ ?_ | refine fork_intro ?_ ?_) <;> intro h <;> try (exfalso; first | omega | exact h rfl | (revert h; decide) | (cases h; done)))
       | ((with_reducible show False); omega)
       | ((first | (with_reducible first | refine r_exit ?_ | refine r_skip ?_ | refine r_cond ?_ | refine r_region ?_ | refine r_ret ?_ | show VX _ _ _ _ _ _ _ | show vstep _ _ _ _ _ | show vskip _ _ _ | show withV _ _) | ((with_reducible show endA _ _ _ _ _ _ _); simp -implicitDefEqProofs only [endA]) | (with_reducible first | refine pick_viewG default (by first | omega | (simp only [LN, used_len, hua]; omega)) (by first | omega | (simp only [LN, used_len, hua]; omega)) ?_ | refine pick_own default (by first | omega | (simp only [LN, used_len, hua]; omega)) ?_ | refine And.intro (by first | decide | omega | assumption | (simp only [LN, used_len, hua]; omega)) ?_) | ((with_reducible show pickE _ _ _); first | refine pickE_intro _ ⟨by omega, by rfl⟩ ?_ | refine pickE_intro _ (by rfl) ?_) | fail); try simp -dsimp -implicitDefEqProofs (maxSteps := 1000000) (disch := first | omega | (simp only [LN, used_len, hua]; omega)) only [go_sem, used_len, hua])
       | fail)
      all_goals first
       | (refine loopQ_next (a + 1) ?_ ?_ ?_; (exact ⟨by omega, hn2⟩); (show _ < _; omega); (simp -dsimp -implicitDefEqProofs (maxSteps := 1000000) (disch := first | omega | (simp only [LN]; omega)) only [go_sem]; try trivial))
       | (exfalso; have h9 := hn (by assumption); contradiction)
     ·have hv : V = 5 := by
       rw [← hV, if_pos]; exact fun hh => hn (hh a ha)
      repeat' (first
       | (with_reducible first | refine r_seq ?_ | refine r_block ?_ | refine fork_not ?_ | refine fork_and ?_ | refine fork_or ?_ | refine chk_ok (by kernel_rfl) ?_)
       | ((with_reducible first | refine fork_dec ?_ ?_ | refine fork_eq ?_ ?_ | refine fork_ne ?_ ?_ | refine fork_intro ?_ ?_) <;> intro h <;> try (exfalso; first | omega | exact h rfl | (revert h; decide) | (cases h; done)))
       | ((with_reducible show False); omega)
       | ((first | (with_reducible first | refine r_exit ?_ | refine r_skip ?_ | refine r_cond ?_ | refine r_region ?_ | refine r_ret ?_ | show VX _ _ _ _ _ _ _ | show vstep _ _ _ _ _ | show vskip _ _ _ | show withV _ _) | ((with_reducible show endA _ _ _ _ _ _ _); simp -implicitDefEqProofs only [endA]) | (with_reducible first | refine pick_viewG default (by first | omega | (simp only [LN, used_len, hua]; omega)) (by first | omega | (simp only [LN, used_len, hua]; omega)) ?_ | refine pick_own default (by first | omega | (simp only [LN, used_len, hua]; omega)) ?_ | refine And.intro (by first | decide | omega | assumption | (simp only [LN, used_len, hua]; omega)) ?_) | ((with_reducible show pickE _ _ _); first | refine pickE_intro _ ⟨by omega, by rfl⟩ ?_ | refine pickE_intro _ (by rfl) ?_) | fail); try simp -dsimp -implicitDefEqProofs (maxSteps := 1000000) (disch := first | omega | (simp only [LN, used_len, hua]; omega)) only [go_sem, used_len, hua])
       | fail)
      all_goals first
       | (rw [hv]; done)
       | (exfalso; exact hn fun _ => by assumption)
       | (exfalso; exact hn fun _ => by omega)
    ·obtain rfl : a = x.cl.length := by omega
     rw [if_neg (fun hh => hh a2)] at hV
     repeat' (first
      | (with_reducible first | refine r_seq ?_ | refine r_block ?_ | refine fork_not ?_ | refine fork_and ?_ | refine fork_or ?_ | refine chk_ok (by kernel_rfl) ?_)
      | ((with_reducible first | refine fork_dec ?_ ?_ | refine fork_eq ?_ ?_ | refine fork_ne ?_ ?_ | refine fork_intro ?_ ?_) <;> intro h <;> try (exfalso; first | omega | exact h rfl | (revert h; decide) | (cases h; done)))
      | ((with_reducible show False); omega)
      | ((first | (with_reducible first | refine r_exit ?_ | refine r_skip ?_ | refine r_cond ?_ | refine r_region ?_ | refine r_ret ?_ | show VX _ _ _ _ _ _ _ | show vstep _ _ _ _ _ | show vskip _ _ _ | show withV _ _) | ((with_reducible show endA _ _ _ _ _ _ _); simp -implicitDefEqProofs only [endA]) | (with_reducible first | refine pick_viewG default (by first | omega | (simp only [LN]; omega)) (by first | omega | (simp only [LN]; omega)) ?_ | refine pick_own default (by first | omega | (simp only [LN]; omega)) ?_ | refine And.intro (by first | decide | omega | assumption | (simp only [LN]; omega)) ?_) | ((with_reducible show pickE _ _ _); first | refine pickE_intro _ ⟨by omega, by rfl⟩ ?_ | refine pickE_intro _ (by rfl) ?_) | fail); try simp -dsimp -implicitDefEqProofs (maxSteps := 1000000) (disch := first | omega | (simp only [LN]; omega)) only [go_sem])
      | fail)
     refine r_loopA (α := Nat) [0, 2, 3, 9, 79, 80] (fun i b => [(16, aI (bgT x.cl o i)), (17, aI (eraT x.cl o i)), (81, aI i)]) (fun i b => []) (fun i => []) (fun i => i ≤ o.length ∧ rtOk x.cl o i) (fun i => o.length - i) (0) ?h0_3 ?hs0_3 ?I_3 ?hI_3 ?round_3
     case hI_3 => intro x; (simp -dsimp -implicitDefEqProofs (maxSteps := 1000000) (disch := first | omega | (simp only [LN]; omega)) only [go_sem]) <;> exact rfl
     case hs0_3 => refine wk_auto ?_; (simp -dsimp -implicitDefEqProofs (maxSteps := 1000000) (disch := first | omega | (simp only [LN, bgT_0, eraT_0]; omega)) only [go_sem, bgT_0, eraT_0]) <;> (try omega)
     case h0_3 => exact ⟨Nat.zero_le _, fun j hj => absurd hj (by omega)⟩
     case round_3 =>
      rintro i ⟨b1, b2⟩
      by_cases hi : i < o.length
      ·obtain ⟨n, hnn, hnl⟩ := hto o.length (Nat.le_refl _) i hi
       have hc : cO x.cl o i = x.cl.getD n default := by unfold cO; rw [hnn]; rfl
       have hbs := bgT_s x.cl o i
       have hes := eraT_s x.cl o i
       by_cases hn : rtB x.cl o i
       ·have hv : V = 8 := by
         rw [← hV, if_pos]; exact fun hh => hh i hi hn
        unfold rtB at hn
        rw [hc] at hn
        repeat' (first
         | (with_reducible first | refine r_seq ?_ | refine r_block ?_ | refine fork_not ?_ | refine fork_and ?_ | refine fork_or ?_ | refine chk_ok (by kernel_rfl) ?_)
         | ((with_reducible first | refine fork_dec ?_ ?_ | refine fork_eq ?_ ?_ | refine fork_ne ?_ ?_ | refine fork_intro ?_ ?_) <;> intro h <;> try (exfalso; first | omega | exact h rfl | (revert h; decide) | (cases h; done)))
         | ((with_reducible show False); omega)
         | ((first | (with_reducible first | refine r_exit ?_ | refine r_skip ?_ | refine r_cond ?_ | refine r_region ?_ | refine r_ret ?_ | show VX _ _ _ _ _ _ _ | show vstep _ _ _ _ _ | show vskip _ _ _ | show withV _ _) | ((with_reducible show endA _ _ _ _ _ _ _); simp -implicitDefEqProofs only [endA]) | (with_reducible first | refine pick_viewG default (by first | omega | (simp only [LN, hnn]; omega)) (by first | omega | (simp only [LN, hnn]; omega)) ?_ | refine pick_own default (by first | omega | (simp only [LN, hnn]; omega)) ?_ | refine And.intro (by first | decide | omega | assumption | (simp only [LN, hnn]; omega)) ?_) | ((with_reducible show pickE _ _ _); first | refine pickE_intro _ ⟨by omega, by rfl⟩ ?_ | refine pickE_intro _ (by rfl) ?_) | fail); try simp -dsimp -implicitDefEqProofs (maxSteps := 1000000) (disch := first | omega | (simp only [LN, hnn]; omega)) only [go_sem, hnn])
         | fail)
        all_goals first
         | (rw [hv]; done)
         | omega
       ·have hn2 : rtOk x.cl o (i + 1) := fun j hj => by
         rcases Nat.lt_or_ge j i with h4 | h4
         ·exact b2 j h4
         ·obtain rfl : j = i := by omega
          exact hn
        unfold rtB at hn
        rw [hc] at hn hbs hes
        repeat' (first
         | (with_reducible first | refine r_seq ?_ | refine r_block ?_ | refine fork_not ?_ | refine fork_and ?_ | refine fork_or ?_ | refine chk_ok (by kernel_rfl) ?_)
         | ((with_reducible first | refine fork_dec ?_ ?_ | refine fork_eq ?_ ?_ | refine fork_ne ?_ ?_ | refine fork_intro ?_ ?_) <;> intro h <;> try (exfalso; first | omega | exact h rfl | (revert h; decide) | (cases h; done)))
         | ((with_reducible show False); omega)
         | ((first | (with_reducible first | refine r_exit ?_ | refine r_skip ?_ | refine r_cond ?_ | refine r_region ?_ | refine r_ret ?_ | show VX _ _ _ _ _ _ _ | show vstep _ _ _ _ _ | show vskip _ _ _ | show withV _ _) | ((with_reducible show endA _ _ _ _ _ _ _); simp -implicitDefEqProofs only [endA]) | (with_reducible first | refine pick_viewG default (by first | omega | (simp only [LN, hnn]; omega)) (by first | omega | (simp only [LN, hnn]; omega)) ?_ | refine pick_own default (by first | omega | (simp only [LN, hnn]; omega)) ?_ | refine And.intro (by first | decide | omega | assumption | (simp only [LN, hnn]; omega)) ?_) | ((with_reducible show pickE _ _ _); first | refine pickE_intro _ ⟨by omega, by rfl⟩ ?_ | refine pickE_intro _ (by rfl) ?_) | fail); try simp -dsimp -implicitDefEqProofs (maxSteps := 1000000) (disch := first | omega | (simp only [LN, hnn]; omega)) only [go_sem, hnn])
         | fail)
        all_goals first
         | omega
         | (refine loopQ_next (i + 1) ?_ ?_ ?_; (exact ⟨by omega, hn2⟩); (show _ < _; omega); (simp -dsimp -implicitDefEqProofs (maxSteps := 1000000) (disch := first | omega | (simp only [LN, hbs, hes]; omega)) only [go_sem, hbs, hes]; try trivial))
      ·obtain rfl : i = o.length := by omega
       rw [if_neg (fun hh => hh b2)] at hV
       repeat' (first
        | (with_reducible first | refine r_seq ?_ | refine r_block ?_ | refine fork_not ?_ | refine fork_and ?_ | refine fork_or ?_ | refine chk_ok (by kernel_rfl) ?_)
        | ((with_reducible first | refine fork_dec ?_ ?_ | refine fork_eq ?_ ?_ | refine fork_ne ?_ ?_ | refine fork_intro ?_ ?_) <;> intro h <;> try (exfalso; first | omega | exact h rfl | (revert h; decide) | (cases h; done)))
        | ((with_reducible show False); omega)
        | ((first | (with_reducible first | refine r_exit ?_ | refine r_skip ?_ | refine r_cond ?_ | refine r_region ?_ | refine r_ret ?_ | show VX _ _ _ _ _ _ _ | show vstep _ _ _ _ _ | show vskip _ _ _ | show withV _ _) | ((with_reducible show endA _ _ _ _ _ _ _); simp -implicitDefEqProofs only [endA]) | (with_reducible first | refine pick_viewG default (by first | omega | (simp only [LN]; omega)) (by first | omega | (simp only [LN]; omega)) ?_ | refine pick_own default (by first | omega | (simp only [LN]; omega)) ?_ | refine And.intro (by first | decide | omega | assumption | (simp only [LN]; omega)) ?_) | ((with_reducible apply callK_pure); (exact c8)) | ((with_reducible apply callF_lend); (exact c8); rfl) | ((with_reducible apply callF_go); (exact c8)) | ((with_reducible show pickE _ _ _); first | refine pickE_intro _ ⟨by omega, by rfl⟩ ?_ | refine pickE_intro _ (by rfl) ?_) | fail); try simp -dsimp -implicitDefEqProofs (maxSteps := 1000000) (disch := first | omega | (simp only [LN]; omega)) only [go_sem])
        | fail)
       refine r_loopA (α := Nat) [3, 9, 21, 115, 116] (fun i b => [(117, aI i)]) (fun i b => [(21, .var (cS (stT k x.cl o i)))]) (fun i => []) (fun i => i ≤ o.length ∧ resOk k x.cl o i) (fun i => o.length - i) (0) ?h0_4 ?hs0_4 ?I_4 ?hI_4 ?round_4
       case hI_4 => intro x; (simp -dsimp -implicitDefEqProofs (maxSteps := 1000000) (disch := first | omega | (simp only [LN]; omega)) only [go_sem]) <;> exact rfl
       case hs0_4 => refine wk_auto ?_; (simp -dsimp -implicitDefEqProofs (maxSteps := 1000000) (disch := first | omega | (simp only [LN, cS, stT_0]; omega)) only [go_sem, cS, stT_0]) <;> (try omega)
       case h0_4 => exact ⟨Nat.zero_le _, fun j hj => absurd hj (by omega)⟩
       case round_4 =>
        rintro i ⟨d1, d2⟩
        have hok := ok_st hk.1 hro h2 i d1
        have hok1 := hok.inv.ps
        have hok2 := hok.inv.vs
        have hcl := Sp.cont_len hok.inv
        by_cases hi : i < o.length
        ·obtain ⟨n, hnn, hnl⟩ := hto o.length (Nat.le_refl _) i hi
         have hc : cO x.cl o i = x.cl.getD n default := by unfold cO; rw [hnn]; rfl
         have hss := stT_s k x.cl o i
         have k12 := Sp.c12 (stT k x.cl o i) (opC (x.cl.getD n default)) (Sp.sorted_pl.2 hok.inv.srt) (by omega) (by omega)
         rw [hc] at hss
         obtain ⟨T, hT⟩ : ∃ T, Sp.applyM (stT k x.cl o i) (opC (x.cl.getD n default)) = T := ⟨_, rfl⟩
         rw [hT] at k12 hss
         by_cases hn : resP k x.cl o i
         ·have hn2 : resOk k x.cl o (i + 1) := fun j hj => by
           rcases Nat.lt_or_ge j i with h4 | h4
           ·exact d2 j h4
           ·obtain rfl : j = i := by omega
            exact hn
          unfold resP at hn
          rw [hc, hT] at hn
          unfold eqR resC at hn
          unfold opC at k12
          repeat' (first
           | (with_reducible first | refine r_seq ?_ | refine r_block ?_ | refine fork_not ?_ | refine fork_and ?_ | refine fork_or ?_ | refine chk_ok (by kernel_rfl) ?_)
           | ((with_reducible first | refine fork_dec ?_ ?_ | refine fork_eq ?_ ?_ | refine fork_ne ?_ ?_ | refine fork_intro ?_ ?_) <;> intro h <;> try (exfalso; first | omega | exact h rfl | (revert h; decide) | (cases h; done)))
           | ((with_reducible show False); omega)
           | ((first | (with_reducible first | refine r_exit ?_ | refine r_skip ?_ | refine r_cond ?_ | refine r_region ?_ | refine r_ret ?_ | show VX _ _ _ _ _ _ _ | show vstep _ _ _ _ _ | show vskip _ _ _ | show withV _ _) | ((with_reducible show endA _ _ _ _ _ _ _); simp -implicitDefEqProofs only [endA]) | (with_reducible first | refine pick_viewG default (by first | omega | (simp only [LN, hnn, cS]; omega)) (by first | omega | (simp only [LN, hnn, cS]; omega)) ?_ | refine pick_own default (by first | omega | (simp only [LN, hnn, cS]; omega)) ?_ | refine And.intro (by first | decide | omega | assumption | (simp only [LN, hnn, cS]; omega)) ?_) | ((with_reducible apply callK_pure); (exact k12)) | ((with_reducible apply callF_lend); (exact k12); rfl) | ((with_reducible apply callF_go); (exact k12)) | ((with_reducible show pickE _ _ _); first | refine pickE_intro _ ⟨by omega, by rfl⟩ ?_ | refine pickE_intro _ (by rfl) ?_) | fail); try simp -dsimp -implicitDefEqProofs (maxSteps := 1000000) (disch := first | omega | (simp only [LN, hnn, cS]; omega)) only [go_sem, hnn, cS])
           | fail)
          all_goals first
           | (refine loopQ_next (i + 1) ?_ ?_ ?_; (exact ⟨by omega, hn2⟩); (show _ < _; omega); (simp -dsimp -implicitDefEqProofs (maxSteps := 1000000) (disch := first | omega | (simp only [LN, hss, cS]; omega)) only [go_sem, hss, cS]; try trivial))
           | (exfalso; have h9 := hn (by assumption); dsimp only at h9; first | exact absurd h9.1 (by assumption) | exact absurd h9.2.1 (by assumption) | exact absurd h9.2.2 (by assumption))
         ·have hv : V = 16 := by
           rw [← hV, if_pos]; exact fun hh => hn (hh i hi)
          unfold resP at hn
          rw [hc, hT] at hn
          unfold eqR resC at hn
          unfold opC at k12
          repeat' (first
           | (with_reducible first | refine r_seq ?_ | refine r_block ?_ | refine fork_not ?_ | refine fork_and ?_ | refine fork_or ?_ | refine chk_ok (by kernel_rfl) ?_)
           | ((with_reducible first | refine fork_dec ?_ ?_ | refine fork_eq ?_ ?_ | refine fork_ne ?_ ?_ | refine fork_intro ?_ ?_) <;> intro h <;> try (exfalso; first | omega | exact h rfl | (revert h; decide) | (cases h; done)))
           | ((with_reducible show False); omega)
           | ((first | (with_reducible first | refine r_exit ?_ | refine r_skip ?_ | refine r_cond ?_ | refine r_region ?_ | refine r_ret ?_ | show VX _ _ _ _ _ _ _ | show vstep _ _ _ _ _ | show vskip _ _ _ | show withV _ _) | ((with_reducible show endA _ _ _ _ _ _ _); simp -implicitDefEqProofs only [endA]) | (with_reducible first | refine pick_viewG default (by first | omega | (simp only [LN, hnn, cS]; omega)) (by first | omega | (simp only [LN, hnn, cS]; omega)) ?_ | refine pick_own default (by first | omega | (simp only [LN, hnn, cS]; omega)) ?_ | refine And.intro (by first | decide | omega | assumption | (simp only [LN, hnn, cS]; omega)) ?_) | ((with_reducible apply callK_pure); (exact k12)) | ((with_reducible apply callF_lend); (exact k12); rfl) | ((with_reducible apply callF_go); (exact k12)) | ((with_reducible show pickE _ _ _); first | refine pickE_intro _ ⟨by omega, by rfl⟩ ?_ | refine pickE_intro _ (by rfl) ?_) | fail); try simp -dsimp -implicitDefEqProofs (maxSteps := 1000000) (disch := first | omega | (simp only [LN, hnn, cS]; omega)) only [go_sem, hnn, cS])
           | fail)
          all_goals first
           | (rw [hv]; done)
           | (exfalso; exact hn fun _ => ⟨by assumption, by assumption, by assumption⟩)
           | (exfalso; exact hn fun _ => by omega)
        ·obtain rfl : i = o.length := by omega
         rw [if_neg (fun hh => hh d2)] at hV
         have k13 := Sp.c13 (stT k x.cl o o.length) (by omega) (by omega)
         have k31 := Sp.c24 (Sp.contM (stT k x.cl o o.length)) fin
         by_cases hn : Sp.contM (stT k x.cl o o.length) = fin
         ·rw [if_neg (fun hh => hh hn)] at hV
          subst hV
          repeat' (first
           | (with_reducible first | refine r_seq ?_ | refine r_block ?_ | refine fork_not ?_ | refine fork_and ?_ | refine fork_or ?_ | refine chk_ok (by kernel_rfl) ?_)
           | ((with_reducible first | refine fork_dec ?_ ?_ | refine fork_eq ?_ ?_ | refine fork_ne ?_ ?_ | refine fork_intro ?_ ?_) <;> intro h <;> try (exfalso; first | omega | exact h rfl | (revert h; decide) | (cases h; done)))
           | ((with_reducible show False); omega)
           | ((first | (with_reducible first | refine r_exit ?_ | refine r_skip ?_ | refine r_cond ?_ | refine r_region ?_ | refine r_ret ?_ | show VX _ _ _ _ _ _ _ | show vstep _ _ _ _ _ | show vskip _ _ _ | show withV _ _) | ((with_reducible show endA _ _ _ _ _ _ _); simp -implicitDefEqProofs only [endA]) | (with_reducible first | refine pick_viewG default (by first | omega | (simp only [LN, cS]; omega)) (by first | omega | (simp only [LN, cS]; omega)) ?_ | refine pick_own default (by first | omega | (simp only [LN, cS]; omega)) ?_ | refine And.intro (by first | decide | omega | assumption | (simp only [LN, cS]; omega)) ?_) | ((with_reducible apply callK_pure); (first | exact k13 | exact k31 | fail)) | ((with_reducible apply callF_lend); (first | exact k13 | exact k31 | fail); rfl) | ((with_reducible apply callF_go); (first | exact k13 | exact k31 | fail)) | ((with_reducible show pickE _ _ _); first | refine pickE_intro _ ⟨by omega, by rfl⟩ ?_ | refine pickE_intro _ (by rfl) ?_) | fail); try simp -dsimp -implicitDefEqProofs (maxSteps := 1000000) (disch := first | omega | (simp only [LN, cS]; omega)) only [go_sem, cS])
           | fail)
          all_goals first | rfl | (exact absurd hn (by assumption))
         ·rw [if_pos hn] at hV
          subst hV
          repeat' (first
           | (with_reducible first | refine r_seq ?_ | refine r_block ?_ | refine fork_not ?_ | refine fork_and ?_ | refine fork_or ?_ | refine chk_ok (by kernel_rfl) ?_)
           | ((with_reducible first | refine fork_dec ?_ ?_ | refine fork_eq ?_ ?_ | refine fork_ne ?_ ?_ | refine fork_intro ?_ ?_) <;> intro h <;> try (exfalso; first | omega | exact h rfl | (revert h; decide) | (cases h; done)))
           | ((with_reducible show False); omega)
           | ((first | (with_reducible first | refine r_exit ?_ | refine r_skip ?_ | refine r_cond ?_ | refine r_region ?_ | refine r_ret ?_ | show VX _ _ _ _ _ _ _ | show vstep _ _ _ _ _ | show vskip _ _ _ | show withV _ _) | ((with_reducible show endA _ _ _ _ _ _ _); simp -implicitDefEqProofs only [endA]) | (with_reducible first | refine pick_viewG default (by first | omega | (simp only [LN, cS]; omega)) (by first | omega | (simp only [LN, cS]; omega)) ?_ | refine pick_own default (by first | omega | (simp only [LN, cS]; omega)) ?_ | refine And.intro (by first | decide | omega | assumption | (simp only [LN, cS]; omega)) ?_) | ((with_reducible apply callK_pure); (first | exact k13 | exact k31 | fail)) | ((with_reducible apply callF_lend); (first | exact k13 | exact k31 | fail); rfl) | ((with_reducible apply callF_go); (first | exact k13 | exact k31 | fail)) | ((with_reducible show pickE _ _ _); first | refine pickE_intro _ ⟨by omega, by rfl⟩ ?_ | refine pickE_intro _ (by rfl) ?_) | fail); try simp -dsimp -implicitDefEqProofs (maxSteps := 1000000) (disch := first | omega | (simp only [LN, cS]; omega)) only [go_sem, cS])
           | fail)
          all_goals first | rfl | (exact absurd (by assumption) hn)
end Go.Proofs.YtpcjeaaplidmaaaDoor