/- Contracts of functions of this program, and the plain facts that they rest on. No conditions. -/
import Derived.Test.YtpcjeaaplidmaaaDoorHiAQ
set_option linter.unusedSimpArgs false
set_option linter.unusedVariables false
namespace Go.Proofs.YtpcjeaaplidmaaaDoor.Hi
open Go Go.Ab
attribute [local irreducible] callK callF loopQ vstep vskip pickE hideP
attribute [local go_sem] eC rC eE hc hP hW oW oP sR
def oH (h : H) (i j : Nat) : Ob := .var [.sl i 2 0 h.ev.length, .sl j 11 0 h.cl.length, .p (.v (.bool (h.b 0))), .p (.v (.bool (h.b 1))), .p (.v (.bool (h.b 2))), .p (.v (.bool (h.b 3))), .p (.v (.bool (h.b 4))), .p (.v (.bool (h.b 5))), .p (.v (.bool (h.b 6))), .p (.v (.bool (h.b 7))), .p (.v (.int .i64 h.era))]
attribute [local go_sem] oH
def h0 : H := ⟨[], [], fun _ => false, 0⟩
set_option maxRecDepth 100000 in
set_option maxHeartbeats 4000000 in
theorem a10  : ACalls Tryd.prog 9 [] [] (.loc 0 0) [oH h0 1 2, .arr 2 (h0.ev.map eE), .arr 11 (h0.cl.map eC)] := by
 refine acalls_of (E := E) (fn := Tryd.f9) 3 [.tmp 0] rfl rfl rfl rfl (by decide) rfl rfl ?_
 repeat' (first
  | (with_reducible first | refine r_seq ?_ | refine r_block ?_ | refine fork_not ?_ | refine fork_and ?_ | refine fork_or ?_ | refine chk_ok (by kernel_rfl) ?_)
  | ((with_reducible first | refine fork_dec ?_ ?_ | refine fork_eq ?_ ?_ | refine fork_ne ?_ ?_ | refine fork_intro ?_ ?_) <;> intro h)
  | ((with_reducible show False); omega)
  | ((first | (with_reducible first | refine r_exit ?_ | refine r_skip ?_ | refine r_cond ?_ | refine r_region ?_ | refine r_ret ?_ | show VX _ _ _ _ _ _ _ | show vstep _ _ _ _ _ | show vskip _ _ _ | show withV _ _) | ((with_reducible show endA _ _ _ _ _ _ _); simp -implicitDefEqProofs only [endA]) | (with_reducible first | refine pick_viewG default (by first | omega | (simp only [LN, h0]; omega)) (by first | omega | (simp only [LN, h0]; omega)) ?_ | refine pick_own default (by first | omega | (simp only [LN, h0]; omega)) ?_ | refine And.intro (by first | decide | omega | assumption | (simp only [LN, h0]; omega)) ?_) | ((with_reducible show pickE _ _ _); first | refine pickE_intro _ ⟨by omega, by rfl⟩ ?_ | refine pickE_intro _ (by rfl) ?_) | fail); try simp -dsimp -implicitDefEqProofs (maxSteps := 1000000) (disch := first | omega | (simp only [LN, h0]; omega)) only [go_sem, h0])
  | fail)
def crashH (h : H) : H := ⟨h.ev ++ [(3, 0)], h.cl, fun _ => false, h.era + 1⟩
set_option maxRecDepth 100000 in
set_option maxHeartbeats 4000000 in
theorem a17 (x : H) (he : 0 ≤ x.era ∧ x.era ≤ 1000000) (hn : x.ev.length ≤ 1000000) (hl : x.cl.length ≤ 1000000) : ACalls Tryd.prog 21 [.loc 0 0] [oH x 1 2, .arr 2 (x.ev.map eE), .arr 11 (x.cl.map eC)] (.p (.tup [])) [oH (crashH x) 3 2, .dead, .arr 11 ((crashH x).cl.map eC), .arr 2 ((crashH x).ev.map eE)] := by
 refine acalls_of (E := E) (fn := Tryd.f21) 25 [] rfl rfl rfl rfl (by decide) rfl rfl ?_
 repeat' (first
  | (with_reducible first | refine r_seq ?_ | refine r_block ?_ | refine fork_not ?_ | refine fork_and ?_ | refine fork_or ?_ | refine chk_ok (by kernel_rfl) ?_)
  | ((with_reducible first | refine fork_dec ?_ ?_ | refine fork_eq ?_ ?_ | refine fork_ne ?_ ?_ | refine fork_intro ?_ ?_) <;> intro h)
  | ((with_reducible show False); omega)
  | ((first | (with_reducible first | refine r_exit ?_ | refine r_skip ?_ | refine r_cond ?_ | refine r_region ?_ | refine r_ret ?_ | show VX _ _ _ _ _ _ _ | show vstep _ _ _ _ _ | show vskip _ _ _ | show withV _ _) | ((with_reducible show endA _ _ _ _ _ _ _); simp -implicitDefEqProofs only [endA]) | (with_reducible first | refine pick_viewG default (by first | omega | (simp only [LN, crashH]; omega)) (by first | omega | (simp only [LN, crashH]; omega)) ?_ | refine pick_own default (by first | omega | (simp only [LN, crashH]; omega)) ?_ | refine And.intro (by first | decide | omega | assumption | (simp only [LN, crashH]; omega)) ?_) | ((with_reducible show pickE _ _ _); first | refine pickE_intro _ ⟨by omega, by rfl⟩ ?_ | refine pickE_intro _ (by rfl) ?_) | fail); try simp -dsimp -implicitDefEqProofs (maxSteps := 1000000) (disch := first | omega | (simp only [LN, crashH]; omega)) only [go_sem, crashH])
  | fail)
def newC (th k key val old n e : Int) : C := ⟨th, k, key, val, old, n, -1, e, 0, false, 0⟩
attribute [local go_sem] newC
def invH (h : H) (th k key val old : Int) : H := ⟨h.ev ++ [(1, (h.cl.length : Int))], h.cl ++ [newC th k key val old h.ev.length h.era], fun t => if t = th.toNat then true else h.b t, h.era⟩
theorem eight {t : Int} (h : 0 ≤ t ∧ t < 8) : t = 0 ∨ t = 1 ∨ t = 2 ∨ t = 3 ∨ t = 4 ∨ t = 5 ∨ t = 6 ∨ t = 7 := by omega
set_option maxRecDepth 100000 in
set_option maxHeartbeats 4000000 in
theorem a18o (x : H) (th k key val old : Int) (ht : 0 ≤ th ∧ th < 8) (hk : 1 ≤ k ∧ k ≤ 9) (hb : x.b th.toNat = false) (hn : x.ev.length ≤ 1000000) (hl : x.cl.length ≤ 1000000) : ACalls Tryd.prog 14 [.loc 0 0, .p (.v (.int .i64 th)), .p (oP k key val old)] [oH x 1 2, .arr 2 (x.ev.map eE), .arr 11 (x.cl.map eC)] (.p (.v (.int .i64 x.cl.length))) [oH (invH x th k key val old) 3 4, .dead, .dead, .arr 2 ((invH x th k key val old).ev.map eE), .arr 11 ((invH x th k key val old).cl.map eC)] := by
 refine acalls_of (E := E) (fn := Tryd.f14) 79 [.tmp 6] rfl rfl rfl rfl (by decide) rfl rfl ?_
 rcases eight ht with rfl | rfl | rfl | rfl | rfl | rfl | rfl | rfl
 all_goals
  simp only [Int.toNat_zero, Int.reduceToNat] at hb
  repeat' (first
   | (with_reducible first | refine r_seq ?_ | refine r_block ?_ | refine fork_not ?_ | refine fork_and ?_ | refine fork_or ?_ | refine chk_ok (by kernel_rfl) ?_)
   | ((with_reducible first | refine fork_dec ?_ ?_ | refine fork_eq ?_ ?_ | refine fork_ne ?_ ?_ | refine fork_intro ?_ ?_) <;> intro h <;> try (exfalso; first | omega | exact h rfl | (revert h; decide) | (cases h; done)))
   | ((with_reducible show False); omega)
   | ((first | (with_reducible first | refine r_exit ?_ | refine r_skip ?_ | refine r_cond ?_ | refine r_region ?_ | refine r_ret ?_ | show VX _ _ _ _ _ _ _ | show vstep _ _ _ _ _ | show vskip _ _ _ | show withV _ _) | ((with_reducible show endA _ _ _ _ _ _ _); simp -implicitDefEqProofs only [endA]) | (with_reducible first | refine pick_viewG default (by first | omega | (simp only [LN, invH, hb, Int.reduceToNat]; omega)) (by first | omega | (simp only [LN, invH, hb, Int.reduceToNat]; omega)) ?_ | refine pick_own default (by first | omega | (simp only [LN, invH, hb, Int.reduceToNat]; omega)) ?_ | refine And.intro (by first | decide | omega | assumption | (simp only [LN, invH, hb, Int.reduceToNat]; omega)) ?_) | ((with_reducible show pickE _ _ _); first | refine pickE_intro _ ⟨by omega, by rfl⟩ ?_ | refine pickE_intro _ (by rfl) ?_) | fail); try simp -dsimp -implicitDefEqProofs (maxSteps := 1000000) (disch := first | omega | (simp only [LN, invH, hb, Int.reduceToNat]; omega)) only [go_sem, invH, hb, Int.reduceToNat])
   | fail)
  all_goals first | omega | (simp [invH]; done)
set_option maxRecDepth 100000 in
set_option maxHeartbeats 4000000 in
theorem a18b (x : H) (th k key val old : Int) (hb : th < 0 ∨ 8 ≤ th ∨ k < 1 ∨ 9 < k ∨ (0 ≤ th ∧ th < 8 ∧ x.b th.toNat = true)) (hn : x.ev.length ≤ 1000000) (hl : x.cl.length ≤ 1000000) : ACalls Tryd.prog 14 [.loc 0 0, .p (.v (.int .i64 th)), .p (oP k key val old)] [oH x 1 2, .arr 2 (x.ev.map eE), .arr 11 (x.cl.map eC)] (.p (.v (.int .i64 (-1)))) [oH x 3 4, .dead, .dead, .arr 2 (x.ev.map eE), .arr 11 (x.cl.map eC)] := by
 refine acalls_of (E := E) (fn := Tryd.f14) 79 [.tmp 6] rfl rfl rfl rfl (by decide) rfl rfl ?_
 by_cases ht : 0 ≤ th ∧ th < 8
 ·rcases eight ht with rfl | rfl | rfl | rfl | rfl | rfl | rfl | rfl
  all_goals
   simp only [Int.toNat_zero, Int.reduceToNat] at hb
   repeat' (first
    | (with_reducible first | refine r_seq ?_ | refine r_block ?_ | refine fork_not ?_ | refine fork_and ?_ | refine fork_or ?_ | refine chk_ok (by kernel_rfl) ?_)
    | ((with_reducible first | refine fork_dec ?_ ?_ | refine fork_eq ?_ ?_ | refine fork_ne ?_ ?_ | refine fork_intro ?_ ?_) <;> intro h <;> try (exfalso; first | omega | exact h rfl | (revert h; decide) | (cases h; done)))
    | ((with_reducible show False); omega)
    | ((first | (with_reducible first | refine r_exit ?_ | refine r_skip ?_ | refine r_cond ?_ | refine r_region ?_ | refine r_ret ?_ | show VX _ _ _ _ _ _ _ | show vstep _ _ _ _ _ | show vskip _ _ _ | show withV _ _) | ((with_reducible show endA _ _ _ _ _ _ _); simp -implicitDefEqProofs only [endA]) | (with_reducible first | refine pick_viewG default (by first | omega | (simp only [LN, Int.reduceToNat]; omega)) (by first | omega | (simp only [LN, Int.reduceToNat]; omega)) ?_ | refine pick_own default (by first | omega | (simp only [LN, Int.reduceToNat]; omega)) ?_ | refine And.intro (by first | decide | omega | assumption | (simp only [LN, Int.reduceToNat]; omega)) ?_) | ((with_reducible show pickE _ _ _); first | refine pickE_intro _ ⟨by omega, by rfl⟩ ?_ | refine pickE_intro _ (by rfl) ?_) | fail); try simp -dsimp -implicitDefEqProofs (maxSteps := 1000000) (disch := first | omega | (simp only [LN, Int.reduceToNat]; omega)) only [go_sem, Int.reduceToNat])
    | fail)
   all_goals first | omega | (exfalso; rcases hb with h1 | h1 | h1 | h1 | h1 <;> first | omega | (rw [h1.2.2] at h; cases h))
 ·repeat' (first
   | (with_reducible first | refine r_seq ?_ | refine r_block ?_ | refine fork_not ?_ | refine fork_and ?_ | refine fork_or ?_ | refine chk_ok (by kernel_rfl) ?_)
   | ((with_reducible first | refine fork_dec ?_ ?_ | refine fork_eq ?_ ?_ | refine fork_ne ?_ ?_ | refine fork_intro ?_ ?_) <;> intro h <;> try (exfalso; first | omega | exact h rfl | (revert h; decide) | (cases h; done)))
   | ((with_reducible show False); omega)
   | ((first | (with_reducible first | refine r_exit ?_ | refine r_skip ?_ | refine r_cond ?_ | refine r_region ?_ | refine r_ret ?_ | show VX _ _ _ _ _ _ _ | show vstep _ _ _ _ _ | show vskip _ _ _ | show withV _ _) | ((with_reducible show endA _ _ _ _ _ _ _); simp -implicitDefEqProofs only [endA]) | (with_reducible first | refine pick_viewG default (by first | omega | (simp only [LN]; omega)) (by first | omega | (simp only [LN]; omega)) ?_ | refine pick_own default (by first | omega | (simp only [LN]; omega)) ?_ | refine And.intro (by first | decide | omega | assumption | (simp only [LN]; omega)) ?_) | ((with_reducible show pickE _ _ _); first | refine pickE_intro _ ⟨by omega, by rfl⟩ ?_ | refine pickE_intro _ (by rfl) ?_) | fail); try simp -dsimp -implicitDefEqProofs (maxSteps := 1000000) (disch := first | omega | (simp only [LN]; omega)) only [go_sem])
   | fail)
  all_goals first | omega
def endC (c : C) (n rv : Int) (ok : Bool) (code : Int) : C := ⟨c.th, c.k, c.key, c.val, c.old, c.bg, n, c.era, rv, ok, code⟩
def retH (h : H) (i rv : Int) (ok : Bool) (code : Int) : H := ⟨h.ev ++ [(2, i)], h.cl.set i.toNat (endC (h.cl.getD i.toNat default) h.ev.length rv ok code), fun t => if t = (h.cl.getD i.toNat default).th.toNat then false else h.b t, h.era⟩
theorem c24e (x : H) (i : Int) : PCalls Tryd.prog 28 [hP x, .v (.int .i64 i)] (.v (.bool (decide ((0 ≤ i ∧ i < x.cl.length) ∧ (x.cl.getD i.toNat default).en < 0)))) := by
 have h := c24 x i
 rw [show decide (pendM x.cl i) = decide ((0 ≤ i ∧ i < x.cl.length) ∧ (x.cl.getD i.toNat default).en < 0) from decide_eq_decide.2 Iff.rfl] at h
 exact h
theorem set_eC (l : List C) (j : Nat) (th k key val old bg en era rv : Int) (ok : Bool) (code : Int) : (l.map eC).set j (PV.agg [.v (.int .i64 th), .v (.int .u8 k), .v (.int .u64 key), .v (.int .u64 val), .v (.int .u64 old), .v (.int .i64 bg), .v (.int .i64 en), .v (.int .i64 era), .v (.int .u64 rv), .v (.bool ok), .v (.int .i64 code)]) = (l.set j ⟨th, k, key, val, old, bg, en, era, rv, ok, code⟩).map eC := by
 rw [List.map_set]; rfl
theorem getD_set_self {α : Type} (l : List α) (j : Nat) (c d : α) (h : j < l.length) : (l.set j c).getD j d = c := by
 simp [List.getD_eq_getElem?_getD, h]
set_option maxRecDepth 100000 in
set_option maxHeartbeats 4000000 in
theorem a20o (x : H) (i rv : Int) (ok : Bool) (code : Int) (hp : pendM x.cl i) (he : (x.cl.getD i.toNat default).era = x.era) (ht : 0 ≤ (x.cl.getD i.toNat default).th ∧ (x.cl.getD i.toNat default).th < 8) (hn : x.ev.length ≤ 1000000) (hl : x.cl.length ≤ 1000000) : ACalls Tryd.prog 15 [.loc 0 0, .p (.v (.int .i64 i)), .p (sR rv ok code)] [oH x 1 2, .arr 2 (x.ev.map eE), .arr 11 (x.cl.map eC)] (.p (.v (.bool true))) [oH (retH x i rv ok code) 3 2, .dead, .arr 11 ((retH x i rv ok code).cl.map eC), .arr 2 ((retH x i rv ok code).ev.map eE)] := by
 refine acalls_of (E := E) (fn := Tryd.f15) 64 [.tmp 6] rfl rfl rfl rfl (by decide) rfl rfl ?_
 unfold pendM at hp
 obtain ⟨j, rfl⟩ := Int.eq_ofNat_of_zero_le hp.1.1
 simp only [Int.toNat_natCast] at he ht hp
 obtain ⟨t, htt, ht8⟩ : ∃ t, (x.cl.getD j default).th = t ∧ (0 ≤ t ∧ t < 8) := ⟨_, rfl, ht⟩
 have hjl : j < x.cl.length := by omega
 rcases eight ht8 with rfl | rfl | rfl | rfl | rfl | rfl | rfl | rfl
 all_goals
  repeat' (first
   | (with_reducible first | refine r_seq ?_ | refine r_block ?_ | refine fork_not ?_ | refine fork_and ?_ | refine fork_or ?_ | refine chk_ok (by kernel_rfl) ?_)
   | ((with_reducible first | refine fork_dec ?_ ?_ | refine fork_eq ?_ ?_ | refine fork_ne ?_ ?_ | refine fork_intro ?_ ?_) <;> intro h <;> try (exfalso; first | omega | exact h rfl | (revert h; decide) | (cases h; done)))
   | ((with_reducible show False); omega)
   | ((first | (with_reducible first | refine r_exit ?_ | refine r_skip ?_ | refine r_cond ?_ | refine r_region ?_ | refine r_ret ?_ | show VX _ _ _ _ _ _ _ | show vstep _ _ _ _ _ | show vskip _ _ _ | show withV _ _) | ((with_reducible show endA _ _ _ _ _ _ _); simp -implicitDefEqProofs only [endA]) | (with_reducible first | refine pick_viewG default (by first | omega | (simp only [LN, htt, retH, endC, Int.reduceToNat, set_eC, getD_set_self, List.length_set, List.set_set]; omega)) (by first | omega | (simp only [LN, htt, retH, endC, Int.reduceToNat, set_eC, getD_set_self, List.length_set, List.set_set]; omega)) ?_ | refine pick_own default (by first | omega | (simp only [LN, htt, retH, endC, Int.reduceToNat, set_eC, getD_set_self, List.length_set, List.set_set]; omega)) ?_ | refine And.intro (by first | decide | omega | assumption | (simp only [LN, htt, retH, endC, Int.reduceToNat, set_eC, getD_set_self, List.length_set, List.set_set]; omega)) ?_) | ((with_reducible apply callK_pure); (exact c24e x (j : Int))) | ((with_reducible apply callF_lend); (exact c24e x (j : Int)); rfl) | ((with_reducible apply callF_go); (exact c24e x (j : Int))) | ((with_reducible show pickE _ _ _); first | refine pickE_intro _ ⟨by omega, by rfl⟩ ?_ | refine pickE_intro _ (by rfl) ?_) | fail); try simp -dsimp -implicitDefEqProofs (maxSteps := 1000000) (disch := first | omega | (simp only [LN, htt, retH, endC, Int.reduceToNat, set_eC, getD_set_self, List.length_set, List.set_set]; omega)) only [go_sem, htt, retH, endC, Int.reduceToNat, set_eC, getD_set_self, List.length_set, List.set_set])
   | fail)
  all_goals first | omega | (simp; done)
end Go.Proofs.YtpcjeaaplidmaaaDoor.Hi