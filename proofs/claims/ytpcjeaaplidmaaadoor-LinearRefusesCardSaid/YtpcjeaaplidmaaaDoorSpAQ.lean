/- Contracts of functions of this program, and the plain facts that they rest on. No conditions. -/
import Derived.Test.YtpcjeaaplidmaaaDoorEnv2
set_option linter.unusedSimpArgs false
set_option linter.unusedVariables false
namespace Go.Proofs.YtpcjeaaplidmaaaDoor.Sp
open Go Go.Ab
attribute [local irreducible] callK callF loopQ vstep vskip pickE hideP
theorem drop_eq_step {α : Type} {a b : List α} {i : Nat} (d : α) (ha : i < a.length) (hb : i < b.length) (he : a.getD i d = b.getD i d) : (a.drop (i + 1) = b.drop (i + 1)) ↔ (a.drop i = b.drop i) := by
 rw [drop_getD (l := a) (i := i) d ha, drop_getD (l := b) (i := i) d hb, he]; simp
theorem drop_ne_step {α : Type} {a b : List α} {i : Nat} (d : α) (ha : i < a.length) (hb : i < b.length) (he : ¬ a.getD i d = b.getD i d) : ¬ a.drop i = b.drop i := by
 rw [drop_getD (l := a) (i := i) d ha, drop_getD (l := b) (i := i) d hb]; intro h; simp only [List.cons.injEq] at h; exact he h.1
structure S where
 k : Int
 n : Int
 ps : List (Int × Int)
 vs : List Int
structure O where
 c : Int
 key : Int
 val : Int
 old : Int
structure R where
 v : Int
 b : Bool
 e : Int
instance : Inhabited S := ⟨⟨0, 0, [], []⟩⟩
instance : Inhabited O := ⟨⟨0, 0, 0, 0⟩⟩
instance : Inhabited R := ⟨⟨0, false, 0⟩⟩
@[go_sem] theorem eta_S (s : S) : (⟨s.k, s.n, s.ps, s.vs⟩ : S) = s := rfl
@[go_sem] theorem eta_O (s : O) : (⟨s.c, s.key, s.val, s.old⟩ : O) = s := rfl
@[go_sem] theorem eta_R (s : R) : (⟨s.v, s.b, s.e⟩ : R) = s := rfl
@[go_sem] def eV (x : Int) : PV := .v (.int .u64 x)
@[go_sem] def eP (p : Int × Int) : PV := .agg [.v (.int .u64 p.1), .v (.int .u64 p.2)]
@[go_sem] def eS (s : S) : PV := .agg [.v (.int .u8 s.k), .v (.int .u64 s.n), .view 2 (s.ps.map eP), .view 1 (s.vs.map eV)]
@[go_sem] def eO (o : O) : PV := .agg [.v (.int .u8 o.c), .v (.int .u64 o.key), .v (.int .u64 o.val), .v (.int .u64 o.old)]
@[go_sem] def eR (r : R) : PV := .agg [.v (.int .u64 r.v), .v (.bool r.b), .v (.int .i64 r.e)]
set_option maxRecDepth 100000 in
set_option maxHeartbeats 4000000 in
theorem c30 (v : Int) : PCalls Tryd.prog 26 [.v (.int .u64 v)] (eR ⟨v, true, 0⟩) := by
 refine pcalls_of (E := E) (fn := Tryd.f26) 5 [.cell 2 47] rfl rfl rfl rfl (by decide) rfl ?_
 repeat' (first
  | (with_reducible first | refine r_seq ?_ | refine r_block ?_ | refine fork_not ?_ | refine fork_and ?_ | refine fork_or ?_ | refine chk_ok (by kernel_rfl) ?_)
  | ((with_reducible first | refine fork_dec ?_ ?_ | refine fork_eq ?_ ?_ | refine fork_ne ?_ ?_ | refine fork_intro ?_ ?_) <;> intro h)
  | ((with_reducible show False); omega)
  | ((first | (with_reducible first | refine r_exit ?_ | refine r_skip ?_ | refine r_cond ?_ | refine r_region ?_ | refine r_ret ?_ | show VX _ _ _ _ _ _ _ | show vstep _ _ _ _ _ | show vskip _ _ _ | show withV _ _) | ((with_reducible show endA _ _ _ _ _ _ _); simp -implicitDefEqProofs only [endA]) | (with_reducible first | refine pick_viewG default (by first | omega | (simp only [LN]; omega)) (by first | omega | (simp only [LN]; omega)) ?_ | refine pick_own default (by first | omega | (simp only [LN]; omega)) ?_ | refine And.intro (by first | decide | omega | assumption | (simp only [LN]; omega)) ?_) | ((with_reducible show pickE _ _ _); first | refine pickE_intro _ ⟨by omega, by rfl⟩ ?_ | refine pickE_intro _ (by rfl) ?_) | fail); try simp -dsimp -implicitDefEqProofs (maxSteps := 1000000) (disch := first | omega | (simp only [LN]; omega)) only [go_sem])
  | fail)
set_option maxRecDepth 100000 in
set_option maxHeartbeats 4000000 in
theorem c31 (v e : Int) : PCalls Tryd.prog 27 [.v (.int .u64 v), .v (.int .i64 e)] (eR ⟨v, false, e⟩) := by
 refine pcalls_of (E := E) (fn := Tryd.f27) 8 [.cell 4 47] rfl rfl rfl rfl (by decide) rfl ?_
 repeat' (first
  | (with_reducible first | refine r_seq ?_ | refine r_block ?_ | refine fork_not ?_ | refine fork_and ?_ | refine fork_or ?_ | refine chk_ok (by kernel_rfl) ?_)
  | ((with_reducible first | refine fork_dec ?_ ?_ | refine fork_eq ?_ ?_ | refine fork_ne ?_ ?_ | refine fork_intro ?_ ?_) <;> intro h)
  | ((with_reducible show False); omega)
  | ((first | (with_reducible first | refine r_exit ?_ | refine r_skip ?_ | refine r_cond ?_ | refine r_region ?_ | refine r_ret ?_ | show VX _ _ _ _ _ _ _ | show vstep _ _ _ _ _ | show vskip _ _ _ | show withV _ _) | ((with_reducible show endA _ _ _ _ _ _ _); simp -implicitDefEqProofs only [endA]) | (with_reducible first | refine pick_viewG default (by first | omega | (simp only [LN]; omega)) (by first | omega | (simp only [LN]; omega)) ?_ | refine pick_own default (by first | omega | (simp only [LN]; omega)) ?_ | refine And.intro (by first | decide | omega | assumption | (simp only [LN]; omega)) ?_) | ((with_reducible show pickE _ _ _); first | refine pickE_intro _ ⟨by omega, by rfl⟩ ?_ | refine pickE_intro _ (by rfl) ?_) | fail); try simp -dsimp -implicitDefEqProofs (maxSteps := 1000000) (disch := first | omega | (simp only [LN]; omega)) only [go_sem])
  | fail)
def regM (s : S) (o : O) : S × R :=
 if o.c = 1 then (s, ⟨s.n, true, 0⟩) else
 if o.c = 2 then ({ s with n := o.val }, ⟨o.val, true, 0⟩) else
 if o.c = 3 then (if s.n = o.old then ({ s with n := o.val }, ⟨o.old, true, 0⟩) else (s, ⟨s.n, false, 6⟩)) else (s, ⟨0, false, 13⟩)
set_option maxRecDepth 100000 in
set_option maxHeartbeats 4000000 in
theorem c27 (s : S) (o : O) : PCalls Tryd.prog 23 [eS s, eO o] (.tup [eS (regM s o).1, eR (regM s o).2]) := by
 refine pcalls_facts ⟨_, rfl, rfl, by decide⟩ fun hf => ?_
 simp only [go_sem, big] at hf
 refine pcalls_of (E := E) (fn := Tryd.f23) 43 [.cell 4 32, .cell 5 47] rfl rfl rfl rfl (by decide) rfl ?_
 repeat' (first
  | (with_reducible first | refine r_seq ?_ | refine r_block ?_ | refine fork_not ?_ | refine fork_and ?_ | refine fork_or ?_ | refine chk_ok (by kernel_rfl) ?_)
  | ((with_reducible first | refine fork_dec ?_ ?_ | refine fork_eq ?_ ?_ | refine fork_ne ?_ ?_ | refine fork_intro ?_ ?_) <;> intro h)
  | ((with_reducible show False); omega)
  | ((first | (with_reducible first | refine r_exit ?_ | refine r_skip ?_ | refine r_cond ?_ | refine r_region ?_ | refine r_ret ?_ | show VX _ _ _ _ _ _ _ | show vstep _ _ _ _ _ | show vskip _ _ _ | show withV _ _) | ((with_reducible show endA _ _ _ _ _ _ _); simp -implicitDefEqProofs only [endA]) | (with_reducible first | refine pick_viewG default (by first | omega | (simp only [LN]; omega)) (by first | omega | (simp only [LN]; omega)) ?_ | refine pick_own default (by first | omega | (simp only [LN]; omega)) ?_ | refine And.intro (by first | decide | omega | assumption | (simp only [LN]; omega)) ?_) | ((with_reducible apply callK_pure); (first | exact c30 _ | exact c31 _ _ | fail)) | ((with_reducible apply callF_lend); (first | exact c30 _ | exact c31 _ _ | fail); rfl) | ((with_reducible apply callF_go); (first | exact c30 _ | exact c31 _ _ | fail)) | ((with_reducible show pickE _ _ _); first | refine pickE_intro _ ⟨by omega, by rfl⟩ ?_ | refine pickE_intro _ (by rfl) ?_) | fail); try simp -dsimp -implicitDefEqProofs (maxSteps := 1000000) (disch := first | omega | (simp only [LN]; omega)) only [go_sem])
  | fail)
 all_goals simp_all [regM]
set_option maxRecDepth 100000 in
set_option maxHeartbeats 4000000 in
theorem c46 (x : Int) : PCalls Tryd.prog 60 [.v (.int .u64 x)] (.v (.bool false)) := by
 refine pcalls_of (E := E) (fn := Tryd.f60) 6 [.tmp 2] rfl rfl rfl rfl (by decide) rfl ?_
 repeat' (first
  | (with_reducible first | refine r_seq ?_ | refine r_block ?_ | refine fork_not ?_ | refine fork_and ?_ | refine fork_or ?_ | refine chk_ok (by kernel_rfl) ?_)
  | ((with_reducible first | refine fork_dec ?_ ?_ | refine fork_eq ?_ ?_ | refine fork_ne ?_ ?_ | refine fork_intro ?_ ?_) <;> intro h)
  | ((with_reducible show False); omega)
  | ((first | (with_reducible first | refine r_exit ?_ | refine r_skip ?_ | refine r_cond ?_ | refine r_region ?_ | refine r_ret ?_ | show VX _ _ _ _ _ _ _ | show vstep _ _ _ _ _ | show vskip _ _ _ | show withV _ _) | ((with_reducible show endA _ _ _ _ _ _ _); simp -implicitDefEqProofs only [endA]) | (with_reducible first | refine pick_viewG default (by first | omega | (simp only [LN]; omega)) (by first | omega | (simp only [LN]; omega)) ?_ | refine pick_own default (by first | omega | (simp only [LN]; omega)) ?_ | refine And.intro (by first | decide | omega | assumption | (simp only [LN]; omega)) ?_) | ((with_reducible show pickE _ _ _); first | refine pickE_intro _ ⟨by omega, by rfl⟩ ?_ | refine pickE_intro _ (by rfl) ?_) | fail); try simp -dsimp -implicitDefEqProofs (maxSteps := 1000000) (disch := first | omega | (simp only [LN]; omega)) only [go_sem])
  | fail)
 all_goals simp_all
def cmpM (x y : Int) : Int := if x < y then -1 else if y < x then 1 else 0
set_option maxRecDepth 100000 in
set_option maxHeartbeats 4000000 in
theorem c40 (x y : Int) : PCalls Tryd.prog 43 [.v (.int .u64 x), .v (.int .u64 y)] (.v (.int .i64 (cmpM x y))) := by
 refine pcalls_of (E := E) (fn := Tryd.f43) 20 [.tmp 4] rfl rfl rfl rfl (by decide) rfl ?_
 repeat' (first
  | (with_reducible first | refine r_seq ?_ | refine r_block ?_ | refine fork_not ?_ | refine fork_and ?_ | refine fork_or ?_ | refine chk_ok (by kernel_rfl) ?_)
  | ((with_reducible first | refine fork_dec ?_ ?_ | refine fork_eq ?_ ?_ | refine fork_ne ?_ ?_ | refine fork_intro ?_ ?_) <;> intro h)
  | ((with_reducible show False); omega)
  | ((first | (with_reducible first | refine r_exit ?_ | refine r_skip ?_ | refine r_cond ?_ | refine r_region ?_ | refine r_ret ?_ | show VX _ _ _ _ _ _ _ | show vstep _ _ _ _ _ | show vskip _ _ _ | show withV _ _) | ((with_reducible show endA _ _ _ _ _ _ _); simp -implicitDefEqProofs only [endA]) | (with_reducible first | refine pick_viewG default (by first | omega | (simp only [LN]; omega)) (by first | omega | (simp only [LN]; omega)) ?_ | refine pick_own default (by first | omega | (simp only [LN]; omega)) ?_ | refine And.intro (by first | decide | omega | assumption | (simp only [LN]; omega)) ?_) | ((with_reducible apply callK_pure); (exact c46 _)) | ((with_reducible apply callF_lend); (exact c46 _); rfl) | ((with_reducible apply callF_go); (exact c46 _)) | ((with_reducible show pickE _ _ _); first | refine pickE_intro _ ⟨by omega, by rfl⟩ ?_ | refine pickE_intro _ (by rfl) ?_) | fail); try simp -dsimp -implicitDefEqProofs (maxSteps := 1000000) (disch := first | omega | (simp only [LN]; omega)) only [go_sem])
  | fail)
 all_goals (simp only [cmpM]; (repeat' split) <;> first | rfl | omega)
set_option maxRecDepth 100000 in
set_option maxHeartbeats 4000000 in
theorem c39 (p : Int × Int) (y : Int) : PCalls Tryd.prog 42 [eP p, .v (.int .u64 y)] (.v (.int .i64 (cmpM p.1 y))) := by
 refine pcalls_of (E := E) (fn := Tryd.f42) 9 [.tmp 4] rfl rfl rfl rfl (by decide) rfl ?_
 repeat' (first
  | (with_reducible first | refine r_seq ?_ | refine r_block ?_ | refine fork_not ?_ | refine fork_and ?_ | refine fork_or ?_ | refine chk_ok (by kernel_rfl) ?_)
  | ((with_reducible first | refine fork_dec ?_ ?_ | refine fork_eq ?_ ?_ | refine fork_ne ?_ ?_ | refine fork_intro ?_ ?_) <;> intro h)
  | ((with_reducible show False); omega)
  | ((first | (with_reducible first | refine r_exit ?_ | refine r_skip ?_ | refine r_cond ?_ | refine r_region ?_ | refine r_ret ?_ | show VX _ _ _ _ _ _ _ | show vstep _ _ _ _ _ | show vskip _ _ _ | show withV _ _) | ((with_reducible show endA _ _ _ _ _ _ _); simp -implicitDefEqProofs only [endA]) | (with_reducible first | refine pick_viewG default (by first | omega | (simp only [LN]; omega)) (by first | omega | (simp only [LN]; omega)) ?_ | refine pick_own default (by first | omega | (simp only [LN]; omega)) ?_ | refine And.intro (by first | decide | omega | assumption | (simp only [LN]; omega)) ?_) | ((with_reducible apply callK_pure); (exact c40 _ _)) | ((with_reducible apply callF_lend); (exact c40 _ _); rfl) | ((with_reducible apply callF_go); (exact c40 _ _)) | ((with_reducible show pickE _ _ _); first | refine pickE_intro _ ⟨by omega, by rfl⟩ ?_ | refine pickE_intro _ (by rfl) ?_) | fail); try simp -dsimp -implicitDefEqProofs (maxSteps := 1000000) (disch := first | omega | (simp only [LN]; omega)) only [go_sem])
  | fail)
set_option maxRecDepth 100000 in
set_option maxHeartbeats 4000000 in
theorem c24 (a b : List (Int × Int)) : PCalls Tryd.prog 31 [.view 2 (a.map eP), .view 2 (b.map eP)] (.v (.bool (decide (a = b)))) := by
 refine pcalls_facts ⟨_, rfl, rfl, by decide⟩ fun hf => ?_
 simp only [go_sem, big] at hf
 refine pcalls_of (E := E) (fn := Tryd.f31) 26 [.tmp 4] rfl rfl rfl rfl (by decide) rfl ?_
 repeat' (first
  | (with_reducible first | refine r_seq ?_ | refine r_block ?_ | refine fork_not ?_ | refine fork_and ?_ | refine fork_or ?_ | refine chk_ok (by kernel_rfl) ?_)
  | ((with_reducible first | refine fork_dec ?_ ?_ | refine fork_eq ?_ ?_ | refine fork_ne ?_ ?_ | refine fork_intro ?_ ?_) <;> intro h)
  | ((with_reducible show False); omega)
  | ((first | (with_reducible first | refine r_exit ?_ | refine r_skip ?_ | refine r_cond ?_ | refine r_region ?_ | refine r_ret ?_ | show VX _ _ _ _ _ _ _ | show vstep _ _ _ _ _ | show vskip _ _ _ | show withV _ _) | ((with_reducible show endA _ _ _ _ _ _ _); simp -implicitDefEqProofs only [endA]) | (with_reducible first | refine pick_viewG default (by first | omega | (simp only [LN]; omega)) (by first | omega | (simp only [LN]; omega)) ?_ | refine pick_own default (by first | omega | (simp only [LN]; omega)) ?_ | refine And.intro (by first | decide | omega | assumption | (simp only [LN]; omega)) ?_) | ((with_reducible show pickE _ _ _); first | refine pickE_intro _ ⟨by omega, by rfl⟩ ?_ | refine pickE_intro _ (by rfl) ?_) | fail); try simp -dsimp -implicitDefEqProofs (maxSteps := 1000000) (disch := first | omega | (simp only [LN]; omega)) only [go_sem])
  | fail)
 ·have : ¬ a = b := by rintro rfl; simp at h
  simp [this]
 ·refine r_loopA (α := Nat) [0, 1, 12] (fun i b => [(13, aI i)]) (fun i b => []) (fun i => []) (fun i => i ≤ a.length ∧ a.length = b.length ∧ (a.drop i = b.drop i ↔ a = b)) (fun i => a.length - i) (0) ?h0_1 ?hs0_1 ?I_1 ?hI_1 ?round_1
  case hI_1 => intro x; (simp -dsimp -implicitDefEqProofs (maxSteps := 1000000) (disch := first | omega | (simp only [LN]; omega)) only [go_sem]) <;> exact rfl
  case hs0_1 => refine wk_auto ?_; (simp -dsimp -implicitDefEqProofs (maxSteps := 1000000) (disch := first | omega | (simp only [LN]; omega)) only [go_sem]) <;> (try omega)
  case h0_1 => exact ⟨by omega, by omega, Iff.rfl⟩
  case round_1 =>
   rintro i ⟨h1, h2, h3⟩
   repeat' (first
    | (with_reducible first | refine r_seq ?_ | refine r_block ?_ | refine fork_not ?_ | refine fork_and ?_ | refine fork_or ?_ | refine chk_ok (by kernel_rfl) ?_)
    | ((with_reducible first | refine fork_dec ?_ ?_ | refine fork_eq ?_ ?_ | refine fork_ne ?_ ?_ | refine fork_intro ?_ ?_) <;> intro h)
    | ((with_reducible show False); omega)
    | ((first | (with_reducible first | refine r_exit ?_ | refine r_skip ?_ | refine r_cond ?_ | refine r_region ?_ | refine r_ret ?_ | show VX _ _ _ _ _ _ _ | show vstep _ _ _ _ _ | show vskip _ _ _ | show withV _ _) | ((with_reducible show endA _ _ _ _ _ _ _); simp -implicitDefEqProofs only [endA]) | (with_reducible first | refine pick_viewG default (by first | omega | (simp only [LN]; omega)) (by first | omega | (simp only [LN]; omega)) ?_ | refine pick_own default (by first | omega | (simp only [LN]; omega)) ?_ | refine And.intro (by first | decide | omega | assumption | (simp only [LN]; omega)) ?_) | ((with_reducible show pickE _ _ _); first | refine pickE_intro _ ⟨by omega, by rfl⟩ ?_ | refine pickE_intro _ (by rfl) ?_) | fail); try simp -dsimp -implicitDefEqProofs (maxSteps := 1000000) (disch := first | omega | (simp only [LN]; omega)) only [go_sem])
    | fail)
   all_goals (first
    | (refine loopQ_next (i + 1) ?_ ?_ ?_; (exact ⟨by omega, by omega, (drop_eq_step default (by omega) (by omega) (Prod.ext ‹_› ‹_›)).trans h3⟩); (show _ < _; omega); (simp -dsimp -implicitDefEqProofs (maxSteps := 1000000) (disch := first | omega | (simp only [LN]; omega)) only [go_sem]; try trivial))
    | (have := drop_ne_step (a := a) (b := b) (i := i) default (by omega) (by omega) (fun e => by simp_all); rw [h3] at this; simp [this]; done)
    | (rw [List.drop_of_length_le (by omega), List.drop_of_length_le (by omega)] at h3; simp_all; done))
@[go_sem] def eS0 (k n : Int) : PV := .agg [.v (.int .u8 k), .v (.int .u64 n), .v (.slice none 0 0), .v (.slice none 0 0)]
def newK (k : Int) : Int := if k < 1 ∨ 4 < k then 0 else k
set_option maxRecDepth 100000 in
set_option maxHeartbeats 4000000 in
theorem c11 (k : Int) : PCalls Tryd.prog 8 [.v (.int .u8 k)] (eS0 (newK k) 0) := by
 refine pcalls_of (E := E) (fn := Tryd.f8) 12 [.cell 2 32] rfl rfl rfl rfl (by decide) rfl ?_
 repeat' (first
  | (with_reducible first | refine r_seq ?_ | refine r_block ?_ | refine fork_not ?_ | refine fork_and ?_ | refine fork_or ?_ | refine chk_ok (by kernel_rfl) ?_)
  | ((with_reducible first | refine fork_dec ?_ ?_ | refine fork_eq ?_ ?_ | refine fork_ne ?_ ?_ | refine fork_intro ?_ ?_) <;> intro h)
  | ((with_reducible show False); omega)
  | ((first | (with_reducible first | refine r_exit ?_ | refine r_skip ?_ | refine r_cond ?_ | refine r_region ?_ | refine r_ret ?_ | show VX _ _ _ _ _ _ _ | show vstep _ _ _ _ _ | show vskip _ _ _ | show withV _ _) | ((with_reducible show endA _ _ _ _ _ _ _); simp -implicitDefEqProofs only [endA]) | (with_reducible first | refine pick_viewG default (by first | omega | (simp only [LN]; omega)) (by first | omega | (simp only [LN]; omega)) ?_ | refine pick_own default (by first | omega | (simp only [LN]; omega)) ?_ | refine And.intro (by first | decide | omega | assumption | (simp only [LN]; omega)) ?_) | ((with_reducible show pickE _ _ _); first | refine pickE_intro _ ⟨by omega, by rfl⟩ ?_ | refine pickE_intro _ (by rfl) ?_) | fail); try simp -dsimp -implicitDefEqProofs (maxSteps := 1000000) (disch := first | omega | (simp only [LN]; omega)) only [go_sem])
  | fail)
 all_goals (simp only [newK]; split <;> simp_all <;> omega)
set_option maxRecDepth 100000 in
set_option maxHeartbeats 4000000 in
theorem c32n (l : List (Int × Int)) (h : l.length ≤ 100000) : PCalls Tryd.prog 33 [.nview 2 (l.map eP)] (.view 2 (l.map eP)) := by
 refine pcalls_of (E := E) (fn := Tryd.f33) 8 [.tmp 2] rfl rfl rfl rfl (by decide) rfl ?_
 repeat' (first
  | (with_reducible first | refine r_seq ?_ | refine r_block ?_ | refine fork_not ?_ | refine fork_and ?_ | refine fork_or ?_ | refine chk_ok (by kernel_rfl) ?_)
  | ((with_reducible first | refine fork_dec ?_ ?_ | refine fork_eq ?_ ?_ | refine fork_ne ?_ ?_ | refine fork_intro ?_ ?_) <;> intro h)
  | ((with_reducible show False); omega)
  | ((first | (with_reducible first | refine r_exit ?_ | refine r_skip ?_ | refine r_cond ?_ | refine r_region ?_ | refine r_ret ?_ | show VX _ _ _ _ _ _ _ | show vstep _ _ _ _ _ | show vskip _ _ _ | show withV _ _) | ((with_reducible show endA _ _ _ _ _ _ _); simp -implicitDefEqProofs only [endA]) | (with_reducible first | refine pick_viewG default (by first | omega | (simp only [LN]; omega)) (by first | omega | (simp only [LN]; omega)) ?_ | refine pick_own default (by first | omega | (simp only [LN]; omega)) ?_ | refine And.intro (by first | decide | omega | assumption | (simp only [LN]; omega)) ?_) | ((with_reducible show pickE _ _ _); first | refine pickE_intro _ ⟨by omega, by rfl⟩ ?_ | refine pickE_intro _ (by rfl) ?_) | fail); try simp -dsimp -implicitDefEqProofs (maxSteps := 1000000) (disch := first | omega | (simp only [LN]; omega)) only [go_sem])
  | fail)
set_option maxRecDepth 100000 in
set_option maxHeartbeats 4000000 in
theorem c32z  : PCalls Tryd.prog 33 [.v (.slice none 0 0)] (.view 2 []) := by
 refine pcalls_of (E := E) (fn := Tryd.f33) 8 [.tmp 2] rfl rfl rfl rfl (by decide) rfl ?_
 repeat' (first
  | (with_reducible first | refine r_seq ?_ | refine r_block ?_ | refine fork_not ?_ | refine fork_and ?_ | refine fork_or ?_ | refine chk_ok (by kernel_rfl) ?_)
  | ((with_reducible first | refine fork_dec ?_ ?_ | refine fork_eq ?_ ?_ | refine fork_ne ?_ ?_ | refine fork_intro ?_ ?_) <;> intro h)
  | ((with_reducible show False); omega)
  | ((first | (with_reducible first | refine r_exit ?_ | refine r_skip ?_ | refine r_cond ?_ | refine r_region ?_ | refine r_ret ?_ | show VX _ _ _ _ _ _ _ | show vstep _ _ _ _ _ | show vskip _ _ _ | show withV _ _) | ((with_reducible show endA _ _ _ _ _ _ _); simp -implicitDefEqProofs only [endA]) | (with_reducible first | refine pick_viewG default (by first | omega | (simp only [LN]; omega)) (by first | omega | (simp only [LN]; omega)) ?_ | refine pick_own default (by first | omega | (simp only [LN]; omega)) ?_ | refine And.intro (by first | decide | omega | assumption | (simp only [LN]; omega)) ?_) | ((with_reducible show pickE _ _ _); first | refine pickE_intro _ ⟨by omega, by rfl⟩ ?_ | refine pickE_intro _ (by rfl) ?_) | fail); try simp -dsimp -implicitDefEqProofs (maxSteps := 1000000) (disch := first | omega | (simp only [LN]; omega)) only [go_sem])
  | fail)
theorem c32 (l : List (Int × Int)) (h : l.length ≤ 100000) : PCalls Tryd.prog 33 [.view 2 (l.map eP)] (.view 2 (l.map eP)) :=
 pcalls_nil (pre := []) (fun e => by rw [e]; exact c32z) (c32n l h)
def enumI : Nat → List Int → List (Int × Int)
 | _, [] => []
 | i, v :: t => ((i : Int), v) :: enumI (i + 1) t
theorem enumI_append : ∀ (l m : List Int) i, enumI i (l ++ m) = enumI i l ++ enumI (i + l.length) m
 | [], m, i => rfl
 | v :: t, m, i => by simp only [List.cons_append, enumI, enumI_append t m (i + 1), List.length_cons]; rw [Nat.add_right_comm, Nat.add_assoc]
theorem enumI_length : ∀ (l : List Int) i, (enumI i l).length = l.length
 | [], _ => rfl
 | _ :: t, i => by simp [enumI, enumI_length t]
theorem enum_take {l : List Int} {i : Nat} (h : i < l.length) : enumI 0 (l.take (i + 1)) = enumI 0 (l.take i) ++ [((i : Int), l.getD i 0)] := by
 rw [take_getD 0 h, enumI_append]; simp [enumI, Nat.min_eq_left (Nat.le_of_lt h)]
theorem default_int : (default : Int) = 0 := rfl
def contM (s : S) : List (Int × Int) := if s.k = 1 ∨ s.k = 4 then [(0, s.n)] else if s.k = 2 then s.ps else enumI 0 s.vs
set_option maxRecDepth 100000 in
set_option maxHeartbeats 4000000 in
theorem c13 (s : S) (h1 : s.ps.length ≤ 100000) (h2 : s.vs.length ≤ 100000) : PCalls Tryd.prog 17 [eS s] (.view 2 ((contM s).map eP)) := by
 refine pcalls_facts ⟨_, rfl, rfl, by decide⟩ fun hf => ?_
 simp only [go_sem, big] at hf
 refine pcalls_of (E := E) (fn := Tryd.f17) 37 [.tmp 2] rfl rfl rfl rfl (by decide) rfl ?_
 repeat' (first
  | (with_reducible first | refine r_seq ?_ | refine r_block ?_ | refine fork_not ?_ | refine fork_and ?_ | refine fork_or ?_ | refine chk_ok (by kernel_rfl) ?_)
  | ((with_reducible first | refine fork_dec ?_ ?_ | refine fork_eq ?_ ?_ | refine fork_ne ?_ ?_ | refine fork_intro ?_ ?_) <;> intro h)
  | ((with_reducible show False); omega)
  | ((first | (with_reducible first | refine r_exit ?_ | refine r_skip ?_ | refine r_cond ?_ | refine r_region ?_ | refine r_ret ?_ | show VX _ _ _ _ _ _ _ | show vstep _ _ _ _ _ | show vskip _ _ _ | show withV _ _) | ((with_reducible show endA _ _ _ _ _ _ _); simp -implicitDefEqProofs only [endA]) | (with_reducible first | refine pick_viewG default (by first | omega | (simp only [LN]; omega)) (by first | omega | (simp only [LN]; omega)) ?_ | refine pick_own default (by first | omega | (simp only [LN]; omega)) ?_ | refine And.intro (by first | decide | omega | assumption | (simp only [LN]; omega)) ?_) | ((with_reducible apply callK_pure); (exact c32 _ (by assumption))) | ((with_reducible apply callF_lend); (exact c32 _ (by assumption)); rfl) | ((with_reducible apply callF_go); (exact c32 _ (by assumption))) | ((with_reducible show pickE _ _ _); first | refine pickE_intro _ ⟨by omega, by rfl⟩ ?_ | refine pickE_intro _ (by rfl) ?_) | fail); try simp -dsimp -implicitDefEqProofs (maxSteps := 1000000) (disch := first | omega | (simp only [LN]; omega)) only [go_sem])
  | fail)
 all_goals first | (with_reducible show awp _ _ _ _ _) | (with_reducible show loopQ _ _ _ _ _ _ _ _) | (simp_all [contM, eP]; done)
 refine r_loopA (α := Nat) [21, 22] (fun i b => [(3, .sl b 2 0 i), (23, aI i)]) (fun i b => []) (fun i => [.arr 2 ((enumI 0 (s.vs.take i)).map eP)]) (fun i => i ≤ s.vs.length) (fun i => s.vs.length - i) (0) ?h0_2 ?hs0_2 ?I_2 ?hI_2 ?round_2
 case hI_2 => intro x; (simp -dsimp -implicitDefEqProofs (maxSteps := 1000000) (disch := first | omega | (simp only [LN]; omega)) only [go_sem]) <;> exact rfl
 case hs0_2 => refine wk_auto ?_; (simp -dsimp -implicitDefEqProofs (maxSteps := 1000000) (disch := first | omega | (simp only [LN, enumI]; omega)) only [go_sem, enumI]) <;> (try omega)
 case h0_2 => omega
 case round_2 =>
  intro i h5
  repeat' (first
   | (with_reducible first | refine r_seq ?_ | refine r_block ?_ | refine fork_not ?_ | refine fork_and ?_ | refine fork_or ?_ | refine chk_ok (by kernel_rfl) ?_)
   | ((with_reducible first | refine fork_dec ?_ ?_ | refine fork_eq ?_ ?_ | refine fork_ne ?_ ?_ | refine fork_intro ?_ ?_) <;> intro h)
   | ((with_reducible show False); omega)
   | ((first | (with_reducible first | refine r_exit ?_ | refine r_skip ?_ | refine r_cond ?_ | refine r_region ?_ | refine r_ret ?_ | show VX _ _ _ _ _ _ _ | show vstep _ _ _ _ _ | show vskip _ _ _ | show withV _ _) | ((with_reducible show endA _ _ _ _ _ _ _); simp -implicitDefEqProofs only [endA]) | (with_reducible first | refine pick_viewG default (by first | omega | (simp only [LN, enumI_length, wrap_u64, default_int]; omega)) (by first | omega | (simp only [LN, enumI_length, wrap_u64, default_int]; omega)) ?_ | refine pick_own default (by first | omega | (simp only [LN, enumI_length, wrap_u64, default_int]; omega)) ?_ | refine And.intro (by first | decide | omega | assumption | (simp only [LN, enumI_length, wrap_u64, default_int]; omega)) ?_) | ((with_reducible show pickE _ _ _); first | refine pickE_intro _ ⟨by omega, by rfl⟩ ?_ | refine pickE_intro _ (by rfl) ?_) | fail); try simp -dsimp -implicitDefEqProofs (maxSteps := 1000000) (disch := first | omega | (simp only [LN, enumI_length, wrap_u64, default_int]; omega)) only [go_sem, enumI_length, wrap_u64, default_int])
   | fail)
  all_goals first | (refine loopQ_next (i + 1) ?_ ?_ ?_; (omega); (show _ < _; omega); (simp -dsimp -implicitDefEqProofs (maxSteps := 1000000) (disch := first | omega | (simp only [LN]; omega)) only [go_sem, enum_take (l := s.vs) (i := i) (by omega)]; try trivial)) | simp [contM, *]
end Go.Proofs.YtpcjeaaplidmaaaDoor.Sp