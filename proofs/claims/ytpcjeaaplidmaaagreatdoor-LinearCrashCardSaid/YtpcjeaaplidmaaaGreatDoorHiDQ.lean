/- Contracts of functions of this program, and the plain facts that they rest on. No conditions. -/
import Derived.Test.YtpcjeaaplidmaaaGreatDoorHiCQ
set_option linter.unusedSimpArgs false
set_option linter.unusedVariables false
namespace Go.Proofs.YtpcjeaaplidmaaaGreatDoor.Hi
open Go Go.Ab
attribute [local irreducible] callK callF loopQ vstep vskip pickE hideP
attribute [local go_sem] eC rC eE hc hP hW oW oP sR oH newC
theorem wr8 (x : Int) : IntKind.u8.wrap x = x % 256 := IntKind.wrap_u8 x
structure S where
 kd : Int
 th : Int
 call : Int
 k : Int
 key : Int
 val : Int
 old : Int
 rv : Int
 ok : Bool
 code : Int
instance : Inhabited S := ⟨⟨0, 0, 0, 0, 0, 0, 0, 0, false, 0⟩⟩
def eS (s : S) : PV := .agg [.v (.int .i64 s.kd), .v (.int .i64 s.th), .v (.int .i64 s.call), .v (.int .i64 s.k), .v (.int .u64 s.key), .v (.int .u64 s.val), .v (.int .u64 s.old), .v (.int .u64 s.rv), .v (.bool s.ok), .v (.int .i64 s.code)]
def hX (x : H) : PV := hW x.cl x.ev.length x.era
attribute [local go_sem] eS hX
def kdM (kd : Int) : Int := (kd.tmod 4 + 4).tmod 4
theorem wkd (kd : Int) : (IntKind.i64.wrap (kd.tmod 4 + 4)).tmod 4 = kdM kd := by
 have := tm4 kd
 rw [i64w (by omega) (by omega)]; rfl
theorem emod2 (k : Int) : k % 256 % 256 = k % 256 := by omega
theorem w8b (k : Int) : IntKind.i64.wrap (k % 256) = k % 256 := i64w (by omega) (by omega)
set_option maxRecDepth 100000 in
set_option maxHeartbeats 4000000 in
theorem a11i (x : H) (s : S) (hkd : kdM s.kd = 0 ∨ kdM s.kd = 1) (ht : 0 ≤ s.th ∧ s.th < 8) (hk : 1 ≤ s.k % 256 ∧ s.k % 256 ≤ 9) (hb : x.b s.th.toNat = false) (hbb : busyM x.cl x.era s.th = false) (hn : x.ev.length ≤ 100000) (hl : x.cl.length ≤ 100000) (he : 0 ≤ x.era ∧ x.era ≤ 100000) : ACalls Tryz.prog 26 [.loc 0 0, .p (hX x), .p (eS s)] [oH x 1 2, .arr 2 (x.ev.map eE), .arr 11 (x.cl.map eC)] (.p (.tup [hX (invH x s.th (s.k % 256) s.key s.val s.old), .v (.bool true)])) [oH (invH x s.th (s.k % 256) s.key s.val s.old) 3 4, .dead, .dead, .arr 2 ((invH x s.th (s.k % 256) s.key s.val s.old).ev.map eE), .arr 11 ((invH x s.th (s.k % 256) s.key s.val s.old).cl.map eC)] := by
 refine acalls_of (E := E) (fn := Tryz.f26) 71 [.cell 6 28, .tmp 7] rfl rfl rfl rfl (by decide) rfl rfl ?_
 have k27 := c27o x.cl x.ev.length x.era s.th (s.k % 256) s.key s.val s.old (by omega) (by omega) (by omega) hbb
 have k19 := c19 (s.k % 256) s.key s.val s.old
 rw [emod2] at k19
 have k18 := a18o x s.th (s.k % 256) s.key s.val s.old ht hk hb (by omega) (by omega)
 repeat' (first
  | (with_reducible first | refine r_seq ?_ | refine r_block ?_ | refine fork_not ?_ | refine fork_and ?_ | refine fork_or ?_ | refine chk_ok (by kernel_rfl) ?_)
  | ((with_reducible first | refine fork_dec ?_ ?_ | refine fork_eq ?_ ?_ | refine fork_ne ?_ ?_ | refine fork_intro ?_ ?_) <;> intro h <;> try (exfalso; first | omega | exact h rfl | (revert h; decide) | (cases h; done)))
  | ((with_reducible show False); omega)
  | ((first | (with_reducible first | refine r_exit ?_ | refine r_skip ?_ | refine r_cond ?_ | refine r_region ?_ | refine r_ret ?_ | show VX _ _ _ _ _ _ _ | show vstep _ _ _ _ _ | show vskip _ _ _ | show withV _ _) | ((with_reducible show endA _ _ _ _ _ _ _); simp -implicitDefEqProofs only [endA]) | (with_reducible first | refine pick_viewG default (by first | omega | (simp only [LN, wkd, wr8, w8b, emod2, invH]; omega)) (by first | omega | (simp only [LN, wkd, wr8, w8b, emod2, invH]; omega)) ?_ | refine pick_own default (by first | omega | (simp only [LN, wkd, wr8, w8b, emod2, invH]; omega)) ?_ | refine And.intro (by first | decide | omega | assumption | (simp only [LN, wkd, wr8, w8b, emod2, invH]; omega)) ?_) | ((with_reducible apply callK_pure); (first | exact k27 | exact k19 | fail)) | ((with_reducible apply callF_lend); (first | exact k27 | exact k19 | fail); rfl) | ((with_reducible apply callF_go); (first | exact k27 | exact k19 | fail)) | (with_reducible first | apply callK_lent | apply callF_lent | apply hideP_own) | ((with_reducible apply callA_go); (first | exact k18 | fail)) | ((with_reducible show pickE _ _ _); first | refine pickE_intro _ ⟨by omega, by rfl⟩ ?_ | refine pickE_intro _ (by rfl) ?_) | fail); try simp -dsimp -implicitDefEqProofs (maxSteps := 1000000) (disch := first | omega | (simp only [LN, wkd, wr8, w8b, emod2, invH]; omega)) only [go_sem, wkd, wr8, w8b, emod2, invH])
  | fail)
 all_goals first | omega | (exact absurd rfl h) | (simp; done)
set_option maxRecDepth 100000 in
set_option maxHeartbeats 4000000 in
theorem a11b (x : H) (s : S) (hkd : kdM s.kd = 0 ∨ kdM s.kd = 1) (hb : s.th < 0 ∨ 8 ≤ s.th ∨ s.k % 256 < 1 ∨ 9 < s.k % 256 ∨ (0 ≤ s.th ∧ s.th < 8 ∧ x.b s.th.toNat = true)) (hbb : s.th < 0 ∨ 7 < s.th ∨ s.k % 256 < 1 ∨ 9 < s.k % 256 ∨ busyM x.cl x.era s.th = true) (hn : x.ev.length ≤ 100000) (hl : x.cl.length ≤ 100000) (he : 0 ≤ x.era ∧ x.era ≤ 100000) : ACalls Tryz.prog 26 [.loc 0 0, .p (hX x), .p (eS s)] [oH x 1 2, .arr 2 (x.ev.map eE), .arr 11 (x.cl.map eC)] (.p (.tup [hX x, .v (.bool true)])) [oH x 3 4, .dead, .dead, .arr 2 (x.ev.map eE), .arr 11 (x.cl.map eC)] := by
 refine acalls_of (E := E) (fn := Tryz.f26) 71 [.cell 6 28, .tmp 7] rfl rfl rfl rfl (by decide) rfl rfl ?_
 have k27 := c27b x.cl x.ev.length x.era s.th (s.k % 256) s.key s.val s.old (by omega) hbb
 have k19 := c19 (s.k % 256) s.key s.val s.old
 rw [emod2] at k19
 have k18 := a18b x s.th (s.k % 256) s.key s.val s.old hb (by omega) (by omega)
 repeat' (first
  | (with_reducible first | refine r_seq ?_ | refine r_block ?_ | refine fork_not ?_ | refine fork_and ?_ | refine fork_or ?_ | refine chk_ok (by kernel_rfl) ?_)
  | ((with_reducible first | refine fork_dec ?_ ?_ | refine fork_eq ?_ ?_ | refine fork_ne ?_ ?_ | refine fork_intro ?_ ?_) <;> intro h <;> try (exfalso; first | omega | exact h rfl | (revert h; decide) | (cases h; done)))
  | ((with_reducible show False); omega)
  | ((first | (with_reducible first | refine r_exit ?_ | refine r_skip ?_ | refine r_cond ?_ | refine r_region ?_ | refine r_ret ?_ | show VX _ _ _ _ _ _ _ | show vstep _ _ _ _ _ | show vskip _ _ _ | show withV _ _) | ((with_reducible show endA _ _ _ _ _ _ _); simp -implicitDefEqProofs only [endA]) | (with_reducible first | refine pick_viewG default (by first | omega | (simp only [LN, wkd, wr8, w8b, emod2]; omega)) (by first | omega | (simp only [LN, wkd, wr8, w8b, emod2]; omega)) ?_ | refine pick_own default (by first | omega | (simp only [LN, wkd, wr8, w8b, emod2]; omega)) ?_ | refine And.intro (by first | decide | omega | assumption | (simp only [LN, wkd, wr8, w8b, emod2]; omega)) ?_) | ((with_reducible apply callK_pure); (first | exact k27 | exact k19 | fail)) | ((with_reducible apply callF_lend); (first | exact k27 | exact k19 | fail); rfl) | ((with_reducible apply callF_go); (first | exact k27 | exact k19 | fail)) | (with_reducible first | apply callK_lent | apply callF_lent | apply hideP_own) | ((with_reducible apply callA_go); (first | exact k18 | fail)) | ((with_reducible show pickE _ _ _); first | refine pickE_intro _ ⟨by omega, by rfl⟩ ?_ | refine pickE_intro _ (by rfl) ?_) | fail); try simp -dsimp -implicitDefEqProofs (maxSteps := 1000000) (disch := first | omega | (simp only [LN, wkd, wr8, w8b, emod2]; omega)) only [go_sem, wkd, wr8, w8b, emod2])
  | fail)
 all_goals first | omega | (exact absurd rfl h) | (simp; done)
set_option maxRecDepth 100000 in
set_option maxHeartbeats 4000000 in
theorem a11r (x : H) (s : S) (hkd : kdM s.kd = 2) (hp : pendM x.cl s.call ∧ (x.cl.getD s.call.toNat default).era = x.era) (ht : 0 ≤ (x.cl.getD s.call.toNat default).th ∧ (x.cl.getD s.call.toNat default).th < 8) (hn : x.ev.length ≤ 100000) (hl : x.cl.length ≤ 100000) (he : 0 ≤ x.era ∧ x.era ≤ 100000) : ACalls Tryz.prog 26 [.loc 0 0, .p (hX x), .p (eS s)] [oH x 1 2, .arr 2 (x.ev.map eE), .arr 11 (x.cl.map eC)] (.p (.tup [hX (retH x s.call s.rv s.ok s.code), .v (.bool true)])) [oH (retH x s.call s.rv s.ok s.code) 3 4, .dead, .dead, .arr 2 ((retH x s.call s.rv s.ok s.code).ev.map eE), .arr 11 ((retH x s.call s.rv s.ok s.code).cl.map eC)] := by
 refine acalls_of (E := E) (fn := Tryz.f26) 71 [.cell 6 28, .tmp 7] rfl rfl rfl rfl (by decide) rfl rfl ?_
 have hp' := hp.1
 unfold pendM at hp'
 have k28 := c28o x.cl x.ev.length x.era s.rv s.call.toNat s.ok s.code (by omega) (by omega) (by omega) ⟨hp'.2, hp.2⟩
 rw [Int.toNat_of_nonneg hp'.1.1] at k28
 have k20 := a20o x s.call s.rv s.ok s.code hp.1 hp.2 ht (by omega) (by omega)
 repeat' (first
  | (with_reducible first | refine r_seq ?_ | refine r_block ?_ | refine fork_not ?_ | refine fork_and ?_ | refine fork_or ?_ | refine chk_ok (by kernel_rfl) ?_)
  | ((with_reducible first | refine fork_dec ?_ ?_ | refine fork_eq ?_ ?_ | refine fork_ne ?_ ?_ | refine fork_intro ?_ ?_) <;> intro h <;> try (exfalso; first | omega | exact h rfl | (revert h; decide) | (cases h; done)))
  | ((with_reducible show False); omega)
  | ((first | (with_reducible first | refine r_exit ?_ | refine r_skip ?_ | refine r_cond ?_ | refine r_region ?_ | refine r_ret ?_ | show VX _ _ _ _ _ _ _ | show vstep _ _ _ _ _ | show vskip _ _ _ | show withV _ _) | ((with_reducible show endA _ _ _ _ _ _ _); simp -implicitDefEqProofs only [endA]) | (with_reducible first | refine pick_viewG default (by first | omega | (simp only [LN, wkd, wr8, w8b, emod2, retH]; omega)) (by first | omega | (simp only [LN, wkd, wr8, w8b, emod2, retH]; omega)) ?_ | refine pick_own default (by first | omega | (simp only [LN, wkd, wr8, w8b, emod2, retH]; omega)) ?_ | refine And.intro (by first | decide | omega | assumption | (simp only [LN, wkd, wr8, w8b, emod2, retH]; omega)) ?_) | ((with_reducible apply callK_pure); (first | exact k28 | exact c21 s.rv s.ok s.code | fail)) | ((with_reducible apply callF_lend); (first | exact k28 | exact c21 s.rv s.ok s.code | fail); rfl) | ((with_reducible apply callF_go); (first | exact k28 | exact c21 s.rv s.ok s.code | fail)) | (with_reducible first | apply callK_lent | apply callF_lent | apply hideP_own) | ((with_reducible apply callA_go); (first | exact k20 | fail)) | ((with_reducible show pickE _ _ _); first | refine pickE_intro _ ⟨by omega, by rfl⟩ ?_ | refine pickE_intro _ (by rfl) ?_) | fail); try simp -dsimp -implicitDefEqProofs (maxSteps := 1000000) (disch := first | omega | (simp only [LN, wkd, wr8, w8b, emod2, retH]; omega)) only [go_sem, wkd, wr8, w8b, emod2, retH])
  | fail)
 all_goals first | omega | (exact absurd rfl h) | (simp; done)
set_option maxRecDepth 100000 in
set_option maxHeartbeats 4000000 in
theorem a11n (x : H) (s : S) (hkd : kdM s.kd = 2) (hp : ¬ (pendM x.cl s.call ∧ (x.cl.getD s.call.toNat default).era = x.era)) (hn : x.ev.length ≤ 100000) (hl : x.cl.length ≤ 100000) (he : 0 ≤ x.era ∧ x.era ≤ 100000) : ACalls Tryz.prog 26 [.loc 0 0, .p (hX x), .p (eS s)] [oH x 1 2, .arr 2 (x.ev.map eE), .arr 11 (x.cl.map eC)] (.p (.tup [hX x, .v (.bool true)])) [oH x 3 4, .dead, .dead, .arr 2 (x.ev.map eE), .arr 11 (x.cl.map eC)] := by
 refine acalls_of (E := E) (fn := Tryz.f26) 71 [.cell 6 28, .tmp 7] rfl rfl rfl rfl (by decide) rfl rfl ?_
 have k28 := c28b x.cl x.ev.length x.era s.call s.rv s.ok s.code (by omega) hp
 have k20 := a20b x s.call s.rv s.ok s.code hp (by omega) (by omega)
 repeat' (first
  | (with_reducible first | refine r_seq ?_ | refine r_block ?_ | refine fork_not ?_ | refine fork_and ?_ | refine fork_or ?_ | refine chk_ok (by kernel_rfl) ?_)
  | ((with_reducible first | refine fork_dec ?_ ?_ | refine fork_eq ?_ ?_ | refine fork_ne ?_ ?_ | refine fork_intro ?_ ?_) <;> intro h <;> try (exfalso; first | omega | exact h rfl | (revert h; decide) | (cases h; done)))
  | ((with_reducible show False); omega)
  | ((first | (with_reducible first | refine r_exit ?_ | refine r_skip ?_ | refine r_cond ?_ | refine r_region ?_ | refine r_ret ?_ | show VX _ _ _ _ _ _ _ | show vstep _ _ _ _ _ | show vskip _ _ _ | show withV _ _) | ((with_reducible show endA _ _ _ _ _ _ _); simp -implicitDefEqProofs only [endA]) | (with_reducible first | refine pick_viewG default (by first | omega | (simp only [LN, wkd, wr8, w8b, emod2]; omega)) (by first | omega | (simp only [LN, wkd, wr8, w8b, emod2]; omega)) ?_ | refine pick_own default (by first | omega | (simp only [LN, wkd, wr8, w8b, emod2]; omega)) ?_ | refine And.intro (by first | decide | omega | assumption | (simp only [LN, wkd, wr8, w8b, emod2]; omega)) ?_) | ((with_reducible apply callK_pure); (first | exact k28 | exact c21 s.rv s.ok s.code | fail)) | ((with_reducible apply callF_lend); (first | exact k28 | exact c21 s.rv s.ok s.code | fail); rfl) | ((with_reducible apply callF_go); (first | exact k28 | exact c21 s.rv s.ok s.code | fail)) | (with_reducible first | apply callK_lent | apply callF_lent | apply hideP_own) | ((with_reducible apply callA_go); (first | exact k20 | fail)) | ((with_reducible show pickE _ _ _); first | refine pickE_intro _ ⟨by omega, by rfl⟩ ?_ | refine pickE_intro _ (by rfl) ?_) | fail); try simp -dsimp -implicitDefEqProofs (maxSteps := 1000000) (disch := first | omega | (simp only [LN, wkd, wr8, w8b, emod2]; omega)) only [go_sem, wkd, wr8, w8b, emod2])
  | fail)
 all_goals first | omega | (exact absurd rfl h) | (simp; done)
set_option maxRecDepth 100000 in
set_option maxHeartbeats 4000000 in
theorem a11c (x : H) (s : S) (hkd : ¬ (kdM s.kd = 0 ∨ kdM s.kd = 1 ∨ kdM s.kd = 2)) (hn : x.ev.length ≤ 100000) (hl : x.cl.length ≤ 100000) (he : 0 ≤ x.era ∧ x.era ≤ 100000) : ACalls Tryz.prog 26 [.loc 0 0, .p (hX x), .p (eS s)] [oH x 1 2, .arr 2 (x.ev.map eE), .arr 11 (x.cl.map eC)] (.p (.tup [hX (crashH x), .v (.bool true)])) [oH (crashH x) 3 4, .dead, .dead, .arr 2 ((crashH x).ev.map eE), .arr 11 ((crashH x).cl.map eC)] := by
 refine acalls_of (E := E) (fn := Tryz.f26) 71 [.cell 6 28, .tmp 7] rfl rfl rfl rfl (by decide) rfl rfl ?_
 have k29 := c29 x.cl x.ev.length x.era (by omega) (by omega)
 have k17 := a17 x (by omega) (by omega) (by omega)
 repeat' (first
  | (with_reducible first | refine r_seq ?_ | refine r_block ?_ | refine fork_not ?_ | refine fork_and ?_ | refine fork_or ?_ | refine chk_ok (by kernel_rfl) ?_)
  | ((with_reducible first | refine fork_dec ?_ ?_ | refine fork_eq ?_ ?_ | refine fork_ne ?_ ?_ | refine fork_intro ?_ ?_) <;> intro h <;> try (exfalso; first | omega | exact h rfl | (revert h; decide) | (cases h; done)))
  | ((with_reducible show False); omega)
  | ((first | (with_reducible first | refine r_exit ?_ | refine r_skip ?_ | refine r_cond ?_ | refine r_region ?_ | refine r_ret ?_ | show VX _ _ _ _ _ _ _ | show vstep _ _ _ _ _ | show vskip _ _ _ | show withV _ _) | ((with_reducible show endA _ _ _ _ _ _ _); simp -implicitDefEqProofs only [endA]) | (with_reducible first | refine pick_viewG default (by first | omega | (simp only [LN, wkd, wr8, w8b, emod2, crashH]; omega)) (by first | omega | (simp only [LN, wkd, wr8, w8b, emod2, crashH]; omega)) ?_ | refine pick_own default (by first | omega | (simp only [LN, wkd, wr8, w8b, emod2, crashH]; omega)) ?_ | refine And.intro (by first | decide | omega | assumption | (simp only [LN, wkd, wr8, w8b, emod2, crashH]; omega)) ?_) | ((with_reducible apply callK_pure); (exact k29)) | ((with_reducible apply callF_lend); (exact k29); rfl) | ((with_reducible apply callF_go); (exact k29)) | (with_reducible first | apply callK_lent | apply callF_lent | apply hideP_own) | ((with_reducible apply callA_go); (first | exact k17 | fail)) | ((with_reducible show pickE _ _ _); first | refine pickE_intro _ ⟨by omega, by rfl⟩ ?_ | refine pickE_intro _ (by rfl) ?_) | fail); try simp -dsimp -implicitDefEqProofs (maxSteps := 1000000) (disch := first | omega | (simp only [LN, wkd, wr8, w8b, emod2, crashH]; omega)) only [go_sem, wkd, wr8, w8b, emod2, crashH])
  | fail)
 all_goals first | omega | (exact absurd rfl h) | (simp; done)
abbrev gc (x : H) (i : Nat) : C := x.cl.getD i default
def EachI (n era : Int) (c : C) : Prop := (0 ≤ c.th ∧ c.th < 8) ∧ (1 ≤ c.k ∧ c.k ≤ 9) ∧ (0 ≤ c.bg ∧ c.bg < n) ∧ (c.en = -1 ∨ (c.bg < c.en ∧ c.en < n)) ∧ (0 ≤ c.era ∧ c.era ≤ era)
def OrdI (c d : C) : Prop := c.bg < d.bg ∧ c.era ≤ d.era ∧ (c.th = d.th → c.era < d.era ∨ (0 ≤ c.en ∧ c.en < d.bg))
def EvI (x : H) (a : Nat) : Prop :=
 (∃ i, i < x.cl.length ∧ x.ev.getD a default = (1, (i : Int)) ∧ (gc x i).bg = a ∧ ∀ j, j < x.cl.length → (j ≠ i → (gc x j).bg ≠ a) ∧ (gc x j).en ≠ a) ∨
 (∃ i, i < x.cl.length ∧ x.ev.getD a default = (2, (i : Int)) ∧ (gc x i).en = a ∧ ∀ j, j < x.cl.length → (gc x j).bg ≠ a ∧ (j ≠ i → (gc x j).en ≠ a)) ∨
 (x.ev.getD a default = (3, 0) ∧ ∀ j, j < x.cl.length → (gc x j).bg ≠ a ∧ (gc x j).en ≠ a)
structure Inv (x : H) : Prop where
 b : ∀ t : Int, 0 ≤ t → t < 8 → x.b t.toNat = busyM x.cl x.era t
 each : ∀ i, i < x.cl.length → EachI x.ev.length x.era (gc x i)
 ord : ∀ i k, i < k → k < x.cl.length → OrdI (gc x i) (gc x k)
 evs : ∀ a, a < x.ev.length → EvI x a
 era : 0 ≤ x.era
def okI (x : H) (s : S) : Prop := 0 ≤ s.th ∧ s.th < 8 ∧ 1 ≤ s.k % 256 ∧ s.k % 256 ≤ 9 ∧ busyM x.cl x.era s.th = false
instance (x : H) (s : S) : Decidable (okI x s) := by unfold okI; exact inferInstance
def doH (x : H) (s : S) : H :=
 if kdM s.kd = 0 ∨ kdM s.kd = 1 then (if okI x s then invH x s.th (s.k % 256) s.key s.val s.old else x)
 else if kdM s.kd = 2 then (if pendM x.cl s.call ∧ (x.cl.getD s.call.toNat default).era = x.era then retH x s.call s.rv s.ok s.code else x)
 else crashH x
theorem a11 (x : H) (s : S) (hI : Inv x) (hn : x.ev.length ≤ 100000) (hl : x.cl.length ≤ 100000) (he : x.era ≤ 100000) :
  ACalls Tryz.prog 26 [.loc 0 0, .p (hX x), .p (eS s)] [oH x 1 2, .arr 2 (x.ev.map eE), .arr 11 (x.cl.map eC)] (.p (.tup [hX (doH x s), .v (.bool true)]))
   [oH (doH x s) 3 4, .dead, .dead, .arr 2 ((doH x s).ev.map eE), .arr 11 ((doH x s).cl.map eC)] := by
 have he := And.intro hI.era he
 unfold doH
 split
 ·rename_i h
  split
  ·rename_i h2
   have h3 := hI.b s.th h2.1 h2.2.1
   exact a11i x s h ⟨h2.1, h2.2.1⟩ ⟨h2.2.2.1, h2.2.2.2.1⟩ (by rw [h3]; exact h2.2.2.2.2) h2.2.2.2.2 hn hl he
  ·rename_i h2
   have h4 : s.th < 0 ∨ 7 < s.th ∨ s.k % 256 < 1 ∨ 9 < s.k % 256 ∨ busyM x.cl x.era s.th = true := by
    unfold okI at h2
    cases hb : busyM x.cl x.era s.th with
    | true => exact .inr (.inr (.inr (.inr rfl)))
    | false => simp only [hb, and_true] at h2; omega
   refine a11b x s h ?_ h4 hn hl he
   rcases h4 with h4 | h4 | h4 | h4 | h4
   ·exact .inl h4
   ·exact .inr (.inl (by omega))
   ·exact .inr (.inr (.inl h4))
   ·exact .inr (.inr (.inr (.inl h4)))
   ·by_cases h5 : 0 ≤ s.th ∧ s.th < 8
    ·exact .inr (.inr (.inr (.inr ⟨h5.1, h5.2, by rw [hI.b s.th h5.1 h5.2]; exact h4⟩)))
    ·omega
 ·rename_i h
  split
  ·rename_i h2
   split
   ·rename_i h3
    exact a11r x s h2 h3 (hI.each _ (by have := h3.1.1; omega)).1 hn hl he
   ·rename_i h3
    exact a11n x s h2 h3 hn hl he
  ·rename_i h2
   exact a11c x s (by omega) hn hl he
end Go.Proofs.YtpcjeaaplidmaaaGreatDoor.Hi