/- Contracts of functions of this program, and the plain facts that they rest on. No conditions. -/
import Derived.Test.YtpcjeaaplidmaaaDoorEnv2
set_option linter.unusedSimpArgs false
set_option linter.unusedVariables false
namespace Go.Proofs.YtpcjeaaplidmaaaDoor.Hi
open Go Go.Ab
attribute [local irreducible] callK callF loopQ vstep vskip pickE hideP
theorem i64w {x : Int} (h0 : -9223372036854775808 ≤ x) (h1 : x ≤ 9223372036854775807) : IntKind.i64.wrap x = x := by rw [IntKind.wrap_i64]; omega
structure C where
 th : Int
 k : Int
 key : Int
 val : Int
 old : Int
 bg : Int
 en : Int
 era : Int
 rv : Int
 ok : Bool
 code : Int
instance : Inhabited C := ⟨⟨0, 0, 0, 0, 0, 0, 0, 0, 0, false, 0⟩⟩
def eC (c : C) : PV := .agg [.v (.int .i64 c.th), .v (.int .u8 c.k), .v (.int .u64 c.key), .v (.int .u64 c.val), .v (.int .u64 c.old), .v (.int .i64 c.bg), .v (.int .i64 c.en), .v (.int .i64 c.era), .v (.int .u64 c.rv), .v (.bool c.ok), .v (.int .i64 c.code)]
def rC (c : C) : PV := .agg [.v (.int .i64 c.th), .v (.int .i64 c.k), .v (.int .u64 c.key), .v (.int .u64 c.val), .v (.int .u64 c.old), .v (.int .i64 c.bg), .v (.int .i64 c.en), .v (.int .i64 c.era), .v (.int .u64 c.rv), .v (.bool c.ok), .v (.int .i64 c.code)]
def eE (e : Int × Int) : PV := .agg [.v (.int .u8 e.1), .v (.int .i64 e.2)]
structure H where
 ev : List (Int × Int)
 cl : List C
 b : Nat → Bool
 era : Int
def hc (h : H) : List PV := [.view 2 (h.ev.map eE), .view 11 (h.cl.map eC), .v (.bool (h.b 0)), .v (.bool (h.b 1)), .v (.bool (h.b 2)), .v (.bool (h.b 3)), .v (.bool (h.b 4)), .v (.bool (h.b 5)), .v (.bool (h.b 6)), .v (.bool (h.b 7)), .v (.int .i64 h.era)]
def hP (h : H) : PV := .eptr (hc h) 0
attribute [local go_sem] eC rC eE hc hP
def pendM (l : List C) (i : Int) : Prop := (0 ≤ i ∧ i < l.length) ∧ (l.getD i.toNat default).en < 0
instance (l : List C) (i : Int) : Decidable (pendM l i) := by unfold pendM; exact inferInstance
def befM (l : List C) (a b : Int) : Prop := (0 ≤ a ∧ a < l.length) ∧ (0 ≤ b ∧ b < l.length) ∧ ((l.getD a.toNat default).era < (l.getD b.toNat default).era ∨ (0 ≤ (l.getD a.toNat default).en ∧ (l.getD a.toNat default).en < (l.getD b.toNat default).bg))
instance (l : List C) (a b : Int) : Decidable (befM l a b) := by unfold befM; exact inferInstance
set_option maxRecDepth 100000 in
set_option maxHeartbeats 4000000 in
theorem c30 (x : H) (i : Int) : PCalls Tryd.prog 46 [hP x, .v (.int .i64 i)] (.v (.bool (decide (0 ≤ i ∧ i < x.cl.length)))) := by
 refine pcalls_facts ⟨_, rfl, rfl, by decide⟩ fun hf => ?_
 simp only [go_sem, big] at hf
 refine pcalls_of (E := E) (fn := Tryd.f46) 20 [.tmp 4] rfl rfl rfl rfl (by decide) rfl ?_
 repeat' (first
  | (with_reducible first | refine r_seq ?_ | refine r_block ?_ | refine fork_not ?_ | refine fork_and ?_ | refine fork_or ?_ | refine chk_ok (by kernel_rfl) ?_)
  | ((with_reducible first | refine fork_dec ?_ ?_ | refine fork_eq ?_ ?_ | refine fork_ne ?_ ?_ | refine fork_intro ?_ ?_) <;> intro h)
  | ((with_reducible show False); omega)
  | ((first | (with_reducible first | refine r_exit ?_ | refine r_skip ?_ | refine r_cond ?_ | refine r_region ?_ | refine r_ret ?_ | show VX _ _ _ _ _ _ _ | show vstep _ _ _ _ _ | show vskip _ _ _ | show withV _ _) | ((with_reducible show endA _ _ _ _ _ _ _); simp -implicitDefEqProofs only [endA]) | (with_reducible first | refine pick_viewG default (by first | omega | (simp only [LN]; omega)) (by first | omega | (simp only [LN]; omega)) ?_ | refine pick_own default (by first | omega | (simp only [LN]; omega)) ?_ | refine And.intro (by first | decide | omega | assumption | (simp only [LN]; omega)) ?_) | ((with_reducible show pickE _ _ _); first | refine pickE_intro _ ⟨by omega, by rfl⟩ ?_ | refine pickE_intro _ (by rfl) ?_) | fail); try simp -dsimp -implicitDefEqProofs (maxSteps := 1000000) (disch := first | omega | (simp only [LN]; omega)) only [go_sem])
  | fail)
 all_goals first | rfl | (refine congrArg Value.bool (Eq.symm (decide_eq_true ?_)); (try simp only [pendM, befM]); omega) | (refine congrArg Value.bool (Eq.symm (decide_eq_false ?_)); (try simp only [pendM, befM]); omega) | (refine congrArg Value.bool (Bool.eq_iff_iff.2 ?_); constructor <;> intro hh <;> (try simp only [beq_iff_eq, decide_eq_true_eq] at hh ⊢) <;> (try simp only [pendM, befM] at hh ⊢) <;> omega)
set_option maxRecDepth 100000 in
set_option maxHeartbeats 4000000 in
theorem c24 (x : H) (i : Int) : PCalls Tryd.prog 28 [hP x, .v (.int .i64 i)] (.v (.bool (decide (pendM x.cl i)))) := by
 refine pcalls_facts ⟨_, rfl, rfl, by decide⟩ fun hf => ?_
 simp only [go_sem, big] at hf
 refine pcalls_of (E := E) (fn := Tryd.f28) 19 [.tmp 4] rfl rfl rfl rfl (by decide) rfl ?_
 repeat' (first
  | (with_reducible first | refine r_seq ?_ | refine r_block ?_ | refine fork_not ?_ | refine fork_and ?_ | refine fork_or ?_ | refine chk_ok (by kernel_rfl) ?_)
  | ((with_reducible first | refine fork_dec ?_ ?_ | refine fork_eq ?_ ?_ | refine fork_ne ?_ ?_ | refine fork_intro ?_ ?_) <;> intro h)
  | ((with_reducible show False); omega)
  | ((first | (with_reducible first | refine r_exit ?_ | refine r_skip ?_ | refine r_cond ?_ | refine r_region ?_ | refine r_ret ?_ | show VX _ _ _ _ _ _ _ | show vstep _ _ _ _ _ | show vskip _ _ _ | show withV _ _) | ((with_reducible show endA _ _ _ _ _ _ _); simp -implicitDefEqProofs only [endA]) | (with_reducible first | refine pick_viewG default (by first | omega | (simp only [LN]; omega)) (by first | omega | (simp only [LN]; omega)) ?_ | refine pick_own default (by first | omega | (simp only [LN]; omega)) ?_ | refine And.intro (by first | decide | omega | assumption | (simp only [LN]; omega)) ?_) | ((with_reducible apply callK_pure); (exact c30 x i)) | ((with_reducible apply callF_lend); (exact c30 x i); rfl) | ((with_reducible apply callF_go); (exact c30 x i)) | ((with_reducible show pickE _ _ _); first | refine pickE_intro _ ⟨by omega, by rfl⟩ ?_ | refine pickE_intro _ (by rfl) ?_) | fail); try simp -dsimp -implicitDefEqProofs (maxSteps := 1000000) (disch := first | omega | (simp only [LN]; omega)) only [go_sem])
  | fail)
 all_goals first | rfl | (refine congrArg Value.bool (Eq.symm (decide_eq_true ?_)); (try simp only [pendM, befM]); omega) | (refine congrArg Value.bool (Eq.symm (decide_eq_false ?_)); (try simp only [pendM, befM]); omega) | (refine congrArg Value.bool (Bool.eq_iff_iff.2 ?_); constructor <;> intro hh <;> (try simp only [beq_iff_eq, decide_eq_true_eq] at hh ⊢) <;> (try simp only [pendM, befM] at hh ⊢) <;> omega)
set_option maxRecDepth 100000 in
set_option maxHeartbeats 4000000 in
theorem c31n (l : List C) (hl : l.length ≤ 1000000) : PCalls Tryd.prog 22 [.nview 11 (l.map eC)] (.view 11 (l.map eC)) := by
 refine pcalls_of (E := E) (fn := Tryd.f22) 8 [.tmp 2] rfl rfl rfl rfl (by decide) rfl ?_
 repeat' (first
  | (with_reducible first | refine r_seq ?_ | refine r_block ?_ | refine fork_not ?_ | refine fork_and ?_ | refine fork_or ?_ | refine chk_ok (by kernel_rfl) ?_)
  | ((with_reducible first | refine fork_dec ?_ ?_ | refine fork_eq ?_ ?_ | refine fork_ne ?_ ?_ | refine fork_intro ?_ ?_) <;> intro h)
  | ((with_reducible show False); omega)
  | ((first | (with_reducible first | refine r_exit ?_ | refine r_skip ?_ | refine r_cond ?_ | refine r_region ?_ | refine r_ret ?_ | show VX _ _ _ _ _ _ _ | show vstep _ _ _ _ _ | show vskip _ _ _ | show withV _ _) | ((with_reducible show endA _ _ _ _ _ _ _); simp -implicitDefEqProofs only [endA]) | (with_reducible first | refine pick_viewG default (by first | omega | (simp only [LN]; omega)) (by first | omega | (simp only [LN]; omega)) ?_ | refine pick_own default (by first | omega | (simp only [LN]; omega)) ?_ | refine And.intro (by first | decide | omega | assumption | (simp only [LN]; omega)) ?_) | ((with_reducible show pickE _ _ _); first | refine pickE_intro _ ⟨by omega, by rfl⟩ ?_ | refine pickE_intro _ (by rfl) ?_) | fail); try simp -dsimp -implicitDefEqProofs (maxSteps := 1000000) (disch := first | omega | (simp only [LN]; omega)) only [go_sem])
  | fail)
set_option maxRecDepth 100000 in
set_option maxHeartbeats 4000000 in
theorem c31z  : PCalls Tryd.prog 22 [.v (.slice none 0 0)] (.view 11 []) := by
 refine pcalls_of (E := E) (fn := Tryd.f22) 8 [.tmp 2] rfl rfl rfl rfl (by decide) rfl ?_
 repeat' (first
  | (with_reducible first | refine r_seq ?_ | refine r_block ?_ | refine fork_not ?_ | refine fork_and ?_ | refine fork_or ?_ | refine chk_ok (by kernel_rfl) ?_)
  | ((with_reducible first | refine fork_dec ?_ ?_ | refine fork_eq ?_ ?_ | refine fork_ne ?_ ?_ | refine fork_intro ?_ ?_) <;> intro h)
  | ((with_reducible show False); omega)
  | ((first | (with_reducible first | refine r_exit ?_ | refine r_skip ?_ | refine r_cond ?_ | refine r_region ?_ | refine r_ret ?_ | show VX _ _ _ _ _ _ _ | show vstep _ _ _ _ _ | show vskip _ _ _ | show withV _ _) | ((with_reducible show endA _ _ _ _ _ _ _); simp -implicitDefEqProofs only [endA]) | (with_reducible first | refine pick_viewG default (by first | omega | (simp only [LN]; omega)) (by first | omega | (simp only [LN]; omega)) ?_ | refine pick_own default (by first | omega | (simp only [LN]; omega)) ?_ | refine And.intro (by first | decide | omega | assumption | (simp only [LN]; omega)) ?_) | ((with_reducible show pickE _ _ _); first | refine pickE_intro _ ⟨by omega, by rfl⟩ ?_ | refine pickE_intro _ (by rfl) ?_) | fail); try simp -dsimp -implicitDefEqProofs (maxSteps := 1000000) (disch := first | omega | (simp only [LN]; omega)) only [go_sem])
  | fail)
theorem c31 (l : List C) (hl : l.length ≤ 1000000) : PCalls Tryd.prog 22 [.view 11 (l.map eC)] (.view 11 (l.map eC)) :=
 pcalls_nil (pre := []) (fun e => by rw [e]; exact c31z) (c31n l hl)
set_option maxRecDepth 100000 in
set_option maxHeartbeats 4000000 in
theorem c16 (x : H) (hl : x.cl.length ≤ 1000000) : PCalls Tryd.prog 10 [hP x] (.view 11 (x.cl.map eC)) := by
 refine pcalls_facts ⟨_, rfl, rfl, by decide⟩ fun hf => ?_
 simp only [go_sem, big] at hf
 refine pcalls_of (E := E) (fn := Tryd.f10) 10 [.tmp 2] rfl rfl rfl rfl (by decide) rfl ?_
 repeat' (first
  | (with_reducible first | refine r_seq ?_ | refine r_block ?_ | refine fork_not ?_ | refine fork_and ?_ | refine fork_or ?_ | refine chk_ok (by kernel_rfl) ?_)
  | ((with_reducible first | refine fork_dec ?_ ?_ | refine fork_eq ?_ ?_ | refine fork_ne ?_ ?_ | refine fork_intro ?_ ?_) <;> intro h)
  | ((with_reducible show False); omega)
  | ((first | (with_reducible first | refine r_exit ?_ | refine r_skip ?_ | refine r_cond ?_ | refine r_region ?_ | refine r_ret ?_ | show VX _ _ _ _ _ _ _ | show vstep _ _ _ _ _ | show vskip _ _ _ | show withV _ _) | ((with_reducible show endA _ _ _ _ _ _ _); simp -implicitDefEqProofs only [endA]) | (with_reducible first | refine pick_viewG default (by first | omega | (simp only [LN]; omega)) (by first | omega | (simp only [LN]; omega)) ?_ | refine pick_own default (by first | omega | (simp only [LN]; omega)) ?_ | refine And.intro (by first | decide | omega | assumption | (simp only [LN]; omega)) ?_) | ((with_reducible apply callK_pure); (exact c31 x.cl hl)) | ((with_reducible apply callF_lend); (exact c31 x.cl hl); rfl) | ((with_reducible apply callF_go); (exact c31 x.cl hl)) | ((with_reducible show pickE _ _ _); first | refine pickE_intro _ ⟨by omega, by rfl⟩ ?_ | refine pickE_intro _ (by rfl) ?_) | fail); try simp -dsimp -implicitDefEqProofs (maxSteps := 1000000) (disch := first | omega | (simp only [LN]; omega)) only [go_sem])
  | fail)
 all_goals rfl
set_option maxRecDepth 100000 in
set_option maxHeartbeats 4000000 in
theorem c16n  : PCalls Tryd.prog 10 [.v (.pointer none)] (.view 11 []) := by
 refine pcalls_of (E := E) (fn := Tryd.f10) 10 [.tmp 2] rfl rfl rfl rfl (by decide) rfl ?_
 repeat' (first
  | (with_reducible first | refine r_seq ?_ | refine r_block ?_ | refine fork_not ?_ | refine fork_and ?_ | refine fork_or ?_ | refine chk_ok (by kernel_rfl) ?_)
  | ((with_reducible first | refine fork_dec ?_ ?_ | refine fork_eq ?_ ?_ | refine fork_ne ?_ ?_ | refine fork_intro ?_ ?_) <;> intro h)
  | ((with_reducible show False); omega)
  | ((first | (with_reducible first | refine r_exit ?_ | refine r_skip ?_ | refine r_cond ?_ | refine r_region ?_ | refine r_ret ?_ | show VX _ _ _ _ _ _ _ | show vstep _ _ _ _ _ | show vskip _ _ _ | show withV _ _) | ((with_reducible show endA _ _ _ _ _ _ _); simp -implicitDefEqProofs only [endA]) | (with_reducible first | refine pick_viewG default (by first | omega | (simp only [LN]; omega)) (by first | omega | (simp only [LN]; omega)) ?_ | refine pick_own default (by first | omega | (simp only [LN]; omega)) ?_ | refine And.intro (by first | decide | omega | assumption | (simp only [LN]; omega)) ?_) | ((with_reducible show pickE _ _ _); first | refine pickE_intro _ ⟨by omega, by rfl⟩ ?_ | refine pickE_intro _ (by rfl) ?_) | fail); try simp -dsimp -implicitDefEqProofs (maxSteps := 1000000) (disch := first | omega | (simp only [LN]; omega)) only [go_sem])
  | fail)
set_option maxRecDepth 100000 in
set_option maxHeartbeats 4000000 in
theorem c14 (x : H) (a b : Int) : PCalls Tryd.prog 47 [hP x, .v (.int .i64 a), .v (.int .i64 b)] (.v (.bool (decide (befM x.cl a b)))) := by
 refine pcalls_facts ⟨_, rfl, rfl, by decide⟩ fun hf => ?_
 simp only [go_sem, big] at hf
 refine pcalls_of (E := E) (fn := Tryd.f47) 50 [.tmp 6] rfl rfl rfl rfl (by decide) rfl ?_
 repeat' (first
  | (with_reducible first | refine r_seq ?_ | refine r_block ?_ | refine fork_not ?_ | refine fork_and ?_ | refine fork_or ?_ | refine chk_ok (by kernel_rfl) ?_)
  | ((with_reducible first | refine fork_dec ?_ ?_ | refine fork_eq ?_ ?_ | refine fork_ne ?_ ?_ | refine fork_intro ?_ ?_) <;> intro h)
  | ((with_reducible show False); omega)
  | ((first | (with_reducible first | refine r_exit ?_ | refine r_skip ?_ | refine r_cond ?_ | refine r_region ?_ | refine r_ret ?_ | show VX _ _ _ _ _ _ _ | show vstep _ _ _ _ _ | show vskip _ _ _ | show withV _ _) | ((with_reducible show endA _ _ _ _ _ _ _); simp -implicitDefEqProofs only [endA]) | (with_reducible first | refine pick_viewG default (by first | omega | (simp only [LN]; omega)) (by first | omega | (simp only [LN]; omega)) ?_ | refine pick_own default (by first | omega | (simp only [LN]; omega)) ?_ | refine And.intro (by first | decide | omega | assumption | (simp only [LN]; omega)) ?_) | ((with_reducible apply callK_pure); (first | exact c30 x a | exact c30 x b | fail)) | ((with_reducible apply callF_lend); (first | exact c30 x a | exact c30 x b | fail); rfl) | ((with_reducible apply callF_go); (first | exact c30 x a | exact c30 x b | fail)) | ((with_reducible show pickE _ _ _); first | refine pickE_intro _ ⟨by omega, by rfl⟩ ?_ | refine pickE_intro _ (by rfl) ?_) | fail); try simp -dsimp -implicitDefEqProofs (maxSteps := 1000000) (disch := first | omega | (simp only [LN]; omega)) only [go_sem])
  | fail)
 all_goals first | rfl | (refine congrArg Value.bool (Eq.symm (decide_eq_true ?_)); (try simp only [pendM, befM]); omega) | (refine congrArg Value.bool (Eq.symm (decide_eq_false ?_)); (try simp only [pendM, befM]); omega) | (refine congrArg Value.bool (Bool.eq_iff_iff.2 ?_); constructor <;> intro hh <;> (try simp only [beq_iff_eq, decide_eq_true_eq] at hh ⊢) <;> (try simp only [pendM, befM] at hh ⊢) <;> omega)
def hW (l : List C) (n e : Int) : PV := .agg [.view 11 (l.map rC), .v (.int .i64 n), .v (.int .i64 e)]
attribute [local go_sem] hW
set_option maxRecDepth 100000 in
set_option maxHeartbeats 4000000 in
theorem c42 (l : List C) (n e : Int) (i : Nat) (hi : i < l.length) : PCalls Tryd.prog 66 [hW l n e, .v (.int .i64 i)] (.v (.bool (decide ((l.getD i default).en < 0 ∧ (l.getD i default).era = e)))) := by
 refine pcalls_facts ⟨_, rfl, rfl, by decide⟩ fun hf => ?_
 simp only [go_sem, big] at hf
 refine pcalls_of (E := E) (fn := Tryd.f66) 23 [.tmp 4] rfl rfl rfl rfl (by decide) rfl ?_
 repeat' (first
  | (with_reducible first | refine r_seq ?_ | refine r_block ?_ | refine fork_not ?_ | refine fork_and ?_ | refine fork_or ?_ | refine chk_ok (by kernel_rfl) ?_)
  | ((with_reducible first | refine fork_dec ?_ ?_ | refine fork_eq ?_ ?_ | refine fork_ne ?_ ?_ | refine fork_intro ?_ ?_) <;> intro h)
  | ((with_reducible show False); omega)
  | ((first | (with_reducible first | refine r_exit ?_ | refine r_skip ?_ | refine r_cond ?_ | refine r_region ?_ | refine r_ret ?_ | show VX _ _ _ _ _ _ _ | show vstep _ _ _ _ _ | show vskip _ _ _ | show withV _ _) | ((with_reducible show endA _ _ _ _ _ _ _); simp -implicitDefEqProofs only [endA]) | (with_reducible first | refine pick_viewG default (by first | omega | (simp only [LN]; omega)) (by first | omega | (simp only [LN]; omega)) ?_ | refine pick_own default (by first | omega | (simp only [LN]; omega)) ?_ | refine And.intro (by first | decide | omega | assumption | (simp only [LN]; omega)) ?_) | ((with_reducible show pickE _ _ _); first | refine pickE_intro _ ⟨by omega, by rfl⟩ ?_ | refine pickE_intro _ (by rfl) ?_) | fail); try simp -dsimp -implicitDefEqProofs (maxSteps := 1000000) (disch := first | omega | (simp only [LN]; omega)) only [go_sem])
  | fail)
 all_goals first | rfl | (refine congrArg Value.bool (Eq.symm (decide_eq_true ?_)); (try simp only [pendM, befM]); omega) | (refine congrArg Value.bool (Eq.symm (decide_eq_false ?_)); (try simp only [pendM, befM]); omega) | (refine congrArg Value.bool (Bool.eq_iff_iff.2 ?_); constructor <;> intro hh <;> (try simp only [beq_iff_eq, decide_eq_true_eq] at hh ⊢) <;> (try simp only [pendM, befM] at hh ⊢) <;> omega)
set_option maxRecDepth 100000 in
set_option maxHeartbeats 4000000 in
theorem c29 (l : List C) (n e : Int) (hn : 0 ≤ n ∧ n ≤ 1000000) (he : 0 ≤ e ∧ e ≤ 1000000) : PCalls Tryd.prog 53 [hW l n e] (hW l (n + 1) (e + 1)) := by
 refine pcalls_facts ⟨_, rfl, rfl, by decide⟩ fun hf => ?_
 simp only [go_sem, big] at hf
 refine pcalls_of (E := E) (fn := Tryd.f53) 12 [.cell 2 63] rfl rfl rfl rfl (by decide) rfl ?_
 repeat' (first
  | (with_reducible first | refine r_seq ?_ | refine r_block ?_ | refine fork_not ?_ | refine fork_and ?_ | refine fork_or ?_ | refine chk_ok (by kernel_rfl) ?_)
  | ((with_reducible first | refine fork_dec ?_ ?_ | refine fork_eq ?_ ?_ | refine fork_ne ?_ ?_ | refine fork_intro ?_ ?_) <;> intro h)
  | ((with_reducible show False); omega)
  | ((first | (with_reducible first | refine r_exit ?_ | refine r_skip ?_ | refine r_cond ?_ | refine r_region ?_ | refine r_ret ?_ | show VX _ _ _ _ _ _ _ | show vstep _ _ _ _ _ | show vskip _ _ _ | show withV _ _) | ((with_reducible show endA _ _ _ _ _ _ _); simp -implicitDefEqProofs only [endA]) | (with_reducible first | refine pick_viewG default (by first | omega | (simp only [LN]; omega)) (by first | omega | (simp only [LN]; omega)) ?_ | refine pick_own default (by first | omega | (simp only [LN]; omega)) ?_ | refine And.intro (by first | decide | omega | assumption | (simp only [LN]; omega)) ?_) | ((with_reducible show pickE _ _ _); first | refine pickE_intro _ ⟨by omega, by rfl⟩ ?_ | refine pickE_intro _ (by rfl) ?_) | fail); try simp -dsimp -implicitDefEqProofs (maxSteps := 1000000) (disch := first | omega | (simp only [LN]; omega)) only [go_sem])
  | fail)
 all_goals rfl
def oW (k key val old : Int) : PV := .agg [.v (.int .i64 k), .v (.int .u64 key), .v (.int .u64 val), .v (.int .u64 old)]
def oP (k key val old : Int) : PV := .agg [.v (.int .u8 k), .v (.int .u64 key), .v (.int .u64 val), .v (.int .u64 old)]
def sR (rv : Int) (ok : Bool) (code : Int) : PV := .agg [.v (.int .u64 rv), .v (.bool ok), .v (.int .i64 code)]
attribute [local go_sem] oW oP sR
set_option maxRecDepth 100000 in
set_option maxHeartbeats 4000000 in
theorem c19 (k key val old : Int) : PCalls Tryd.prog 13 [oW k key val old] (oP (k % 256) key val old) := by
 refine pcalls_of (E := E) (fn := Tryd.f13) 13 [.cell 2 52] rfl rfl rfl rfl (by decide) rfl ?_
 repeat' (first
  | (with_reducible first | refine r_seq ?_ | refine r_block ?_ | refine fork_not ?_ | refine fork_and ?_ | refine fork_or ?_ | refine chk_ok (by kernel_rfl) ?_)
  | ((with_reducible first | refine fork_dec ?_ ?_ | refine fork_eq ?_ ?_ | refine fork_ne ?_ ?_ | refine fork_intro ?_ ?_) <;> intro h)
  | ((with_reducible show False); omega)
  | ((first | (with_reducible first | refine r_exit ?_ | refine r_skip ?_ | refine r_cond ?_ | refine r_region ?_ | refine r_ret ?_ | show VX _ _ _ _ _ _ _ | show vstep _ _ _ _ _ | show vskip _ _ _ | show withV _ _) | ((with_reducible show endA _ _ _ _ _ _ _); simp -implicitDefEqProofs only [endA]) | (with_reducible first | refine pick_viewG default (by first | omega | (simp only [LN]; omega)) (by first | omega | (simp only [LN]; omega)) ?_ | refine pick_own default (by first | omega | (simp only [LN]; omega)) ?_ | refine And.intro (by first | decide | omega | assumption | (simp only [LN]; omega)) ?_) | ((with_reducible show pickE _ _ _); first | refine pickE_intro _ ⟨by omega, by rfl⟩ ?_ | refine pickE_intro _ (by rfl) ?_) | fail); try simp -dsimp -implicitDefEqProofs (maxSteps := 1000000) (disch := first | omega | (simp only [LN]; omega)) only [go_sem])
  | fail)
 all_goals (simp only [IntKind.wrap_u8])
end Go.Proofs.YtpcjeaaplidmaaaDoor.Hi