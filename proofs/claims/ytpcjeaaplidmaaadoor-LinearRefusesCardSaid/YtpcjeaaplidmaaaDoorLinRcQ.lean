/- Contracts of functions of this program, and the plain facts that they rest on. No conditions. -/
import Derived.Test.YtpcjeaaplidmaaaDoorLinRbQ
import Derived.Test.YtpcjeaaplidmaaaDoorLinZQ
set_option linter.unusedSimpArgs false
set_option linter.unusedVariables false
namespace Go.Proofs.YtpcjeaaplidmaaaDoor
open Go Go.Ab
attribute [local irreducible] callK callF loopQ vstep vskip pickE hideP
open Go.RowKit
set_option maxRecDepth 100000
attribute [local go_sem] Hi.eC Hi.rC Hi.eE Hi.hc Hi.hP Hi.oH eI Hi.oW Hi.oP Hi.sR Sp.eP
attribute [local irreducible] checkR verM prefR preL checkE examE rH
set_option maxRecDepth 100000 in
set_option maxHeartbeats 4000000 in
theorem c5 (num ca op key val old : Int) (ho : U64 key ∧ U64 val ∧ U64 old) : PCalls Tryd.prog 5 [.v (.int .i64 num), .v (.int .i64 ca), Hi.oW op key val old] (.v (.bool true)) := by
 refine pcalls_of (E := E) (fn := Tryd.f5) 243 [.tmp 6] rfl rfl rfl rfl (by decide) rfl ?_
 have hn := nM_rng ca
 have hwn := wn14 ca
 obtain ⟨N, hN⟩ : ∃ N : Nat, nM ca = N := ⟨(nM ca).toNat, by omega⟩
 have hw1 : IntKind.i64.wrap ((N : Int) + 1) = ((N + 1 : Nat) : Int) := by rw [Hi.i64w (by omega) (by omega)]; rfl
 repeat' (first
  | (with_reducible first | refine r_seq ?_ | refine r_block ?_ | refine fork_not ?_ | refine fork_and ?_ | refine fork_or ?_ | refine chk_ok (by kernel_rfl) ?_)
  | ((with_reducible first | refine fork_dec ?_ ?_ | refine fork_eq ?_ ?_ | refine fork_ne ?_ ?_ | refine fork_intro ?_ ?_) <;> intro h)
  | ((with_reducible show False); omega)
  | ((first | (with_reducible first | refine r_exit ?_ | refine r_skip ?_ | refine r_cond ?_ | refine r_region ?_ | refine r_ret ?_ | show VX _ _ _ _ _ _ _ | show vstep _ _ _ _ _ | show vskip _ _ _ | show withV _ _) | ((with_reducible show endA _ _ _ _ _ _ _); simp -implicitDefEqProofs only [endA]) | (with_reducible first | refine pick_viewG default (by first | omega | (simp only [LN, hwn, hN, hw1]; omega)) (by first | omega | (simp only [LN, hwn, hN, hw1]; omega)) ?_ | refine pick_own default (by first | omega | (simp only [LN, hwn, hN, hw1]; omega)) ?_ | refine And.intro (by first | decide | omega | assumption | (simp only [LN, hwn, hN, hw1]; omega)) ?_) | ((with_reducible apply callK_pure); (exact c6)) | ((with_reducible apply callF_lend); (exact c6); rfl) | ((with_reducible apply callF_go); (exact c6)) | (with_reducible first | apply callK_lent | apply callF_lent | apply hideP_own) | ((with_reducible apply callA_go); (first | exact Hi.a10 | fail)) | ((with_reducible show pickE _ _ _); first | refine pickE_intro _ ⟨by omega, by rfl⟩ ?_ | refine pickE_intro _ (by rfl) ?_) | fail); try simp -dsimp -implicitDefEqProofs (maxSteps := 1000000) (disch := first | omega | (simp only [LN, hwn, hN, hw1]; omega)) only [go_sem, hwn, hN, hw1])
  | fail)
 refine r_loopA (α := Nat) [0, 5, 7, 8, 36] (fun i b => [(37, aI i)]) (fun i b => [(7, Hi.oH (rH i) b (b + 1))]) (fun i => [.arr 2 ((rH i).ev.map Hi.eE), .arr 11 ((rH i).cl.map Hi.eC)]) (fun i => i ≤ N + 1) (fun i => N + 1 - i) (0) ?h0_1 ?hs0_1 ?I_1 ?hI_1 ?round_1
 case hI_1 => intro x; (simp -dsimp -implicitDefEqProofs (maxSteps := 1000000) (disch := first | omega | (simp only [LN]; omega)) only [go_sem]) <;> exact rfl
 case hs0_1 => refine wk_auto ?_; (simp -dsimp -implicitDefEqProofs (maxSteps := 1000000) (disch := first | omega | (simp only [LN, rH_0, h0_ev, h0_cl, h0_era]; omega)) only [go_sem, rH_0, h0_ev, h0_cl, h0_era]) <;> (try omega)
 case h0_1 => exact Nat.zero_le _
 case round_1 =>
  intro i h1
  by_cases hi : i < N + 1
  ·obtain ⟨f1, f2, f3, f4, f5, f6, f7, f8, f9⟩ := rH_f i (by omega)
   have kinv := Hi.a18o (rH i) ((i % 8 : Nat) : Int) 1 0 0 0 ⟨by omega, by omega⟩ ⟨by decide, by decide⟩ (by rw [Int.toNat_natCast]; exact f1) (by omega) (by omega)
   have kret := Hi.a20o (Hi.invH (rH i) ((i % 8 : Nat) : Int) 1 0 0 0) i 0 true 0 ⟨⟨by omega, by rw [f4]; omega⟩, by rw [Int.toNat_natCast]; exact f6⟩ (by rw [Int.toNat_natCast]; exact f7) (by rw [Int.toNat_natCast]; exact ⟨f8, f9⟩) (by omega) (by omega)
   rw [← rH_s] at kret
   rw [f2] at kinv
   have hm := hm8 i
   generalize Hi.invH (rH i) ((i % 8 : Nat) : Int) 1 0 0 0 = y at *
   repeat' (first
    | (with_reducible first | refine r_seq ?_ | refine r_block ?_ | refine fork_not ?_ | refine fork_and ?_ | refine fork_or ?_ | refine chk_ok (by kernel_rfl) ?_)
    | ((with_reducible first | refine fork_dec ?_ ?_ | refine fork_eq ?_ ?_ | refine fork_ne ?_ ?_ | refine fork_intro ?_ ?_) <;> intro h <;> try (exfalso; first | omega | exact h rfl | (revert h; decide) | (cases h; done)))
    | ((with_reducible show False); omega)
    | ((first | (with_reducible first | refine r_exit ?_ | refine r_skip ?_ | refine r_cond ?_ | refine r_region ?_ | refine r_ret ?_ | show VX _ _ _ _ _ _ _ | show vstep _ _ _ _ _ | show vskip _ _ _ | show withV _ _) | ((with_reducible show endA _ _ _ _ _ _ _); simp -implicitDefEqProofs only [endA]) | (with_reducible first | refine pick_viewG default (by first | omega | (simp only [LN, hm]; omega)) (by first | omega | (simp only [LN, hm]; omega)) ?_ | refine pick_own default (by first | omega | (simp only [LN, hm]; omega)) ?_ | refine And.intro (by first | decide | omega | assumption | (simp only [LN, hm]; omega)) ?_) | (with_reducible first | apply callK_lent | apply callF_lent | apply hideP_own) | ((with_reducible apply callA_go); (first | exact kinv | exact kret | fail)) | ((with_reducible show pickE _ _ _); first | refine pickE_intro _ ⟨by omega, by rfl⟩ ?_ | refine pickE_intro _ (by rfl) ?_) | fail); try simp -dsimp -implicitDefEqProofs (maxSteps := 1000000) (disch := first | omega | (simp only [LN, hm]; omega)) only [go_sem, hm])
    | fail)
   all_goals first | omega | (refine loopQ_next (i + 1) ?_ ?_ ?_; (omega); (show _ < _; omega); (simp -dsimp -implicitDefEqProofs (maxSteps := 1000000) (disch := first | omega | (simp only [LN]; omega)) only [go_sem]; try trivial))
  ·obtain rfl : i = N + 1 := by omega
   obtain ⟨e1, e2, e3, e4⟩ := rH_e (N + 1) (by omega)
   have hv := rH_v (N + 1) (by omega)
   have hro : ∀ j, j < (rH (N + 1)).cl.length → RngO (opC ((rH (N + 1)).cl.getD j default)) := fun j hj => by
    obtain ⟨a1, a2, a3⟩ := e4 j (by omega)
    unfold RngO U64 opC
    dsimp only
    rw [a1, a2, a3]; decide
   have hul := upT_len (N + 1)
   obtain ⟨os, pl, ok, ce, hc, kchk, kpre⟩ : ∃ (os pl : List PV) (ok : Bool) (ce : Int), (ok = true ∧ ce = 0 ∧ N + 1 ≤ 10 ∨ ok = false ∧ ce = 9 ∧ 10 < N + 1) ∧
     ACalls Tryd.prog 16 [.p (.v (.int .u8 1)), .loc 0 0, .sl 1 2 0 1] [Hi.oH (rH (N + 1)) 2 3, .arr 2 [.agg [.v (.int .u64 0), .v (.int .u64 0)]], .arr 2 ((rH (N + 1)).ev.map Hi.eE), .arr 11 ((rH (N + 1)).cl.map Hi.eC)] (.p (.tup [.view 1 os, .v (.bool ok), .v (.int .i64 ce)])) [Hi.oH (rH (N + 1)) 2 3, .arr 2 [.agg [.v (.int .u64 0), .v (.int .u64 0)]], .arr 2 ((rH (N + 1)).ev.map Hi.eE), .arr 11 ((rH (N + 1)).cl.map Hi.eC)] ∧
     ACalls Tryd.prog 20 [.p (.v (.int .u8 1)), .loc 0 0] [Hi.oH (rH (N + 1)) 1 2, .arr 2 ((rH (N + 1)).ev.map Hi.eE), .arr 11 ((rH (N + 1)).cl.map Hi.eC)] (.p (.tup [.view 1 pl, .v (.int .i64 ce)])) [Hi.oH (rH (N + 1)) 1 2, .arr 2 ((rH (N + 1)).ev.map Hi.eE), .arr 11 ((rH (N + 1)).cl.map Hi.eC)] := by
    rcases Nat.lt_or_ge 10 (N + 1) with h10 | h10
    ·have hce : checkE 1 (rH (N + 1)).cl = 9 := by unfold checkE; rw [if_neg (fun h => h e3), if_pos (by omega)]
     have k1 := o16es 1 (rH (N + 1)) [(0, 0)] (by decide) (by omega) (by rw [hce]; decide)
     have k2 := o20e 1 (rH (N + 1)) (by omega) (by rw [hce]; decide)
     rw [hce] at k1 k2
     exact ⟨_, _, false, 9, .inr ⟨rfl, rfl, h10⟩, k1, k2⟩
    ·have hce : checkE 1 (rH (N + 1)).cl = 0 := by unfold checkE; rw [if_neg (fun h => h e3), if_neg (by omega)]
     have k1 := o16s 1 (rH (N + 1)) [(0, 0)] (by decide) hce hro
     have k2 := o20g 1 (rH (N + 1)) hce hro
     rw [rH_c (by omega)] at k1
     exact ⟨_, _, true, 0, .inl ⟨rfl, rfl, by omega⟩, k1, k2⟩
   have kver := o19s 1 (rH (N + 1)) (upT (N + 1)) [(0, 0)] (by decide) (by omega) (by omega) e3 hro
   rw [hv] at kver
   have bad : ∀ b : Int, Sp.newK b ≠ b ∨ b = 0 → examE b (rH (N + 1)).cl = 1 ∧ checkE b (rH (N + 1)).cl = 1 := fun b hb => by
    have h := exam_1 (l := (rH (N + 1)).cl) hb
    refine ⟨h, ?_⟩
    unfold checkE; rw [h]; rfl
   have kb1 := fun (b : Int) (hb : Sp.newK b ≠ b ∨ b = 0) => nil_3 (o16e b (rH (N + 1)) [] (by omega) (by rw [(bad b hb).2]; decide))
   have kb2 := fun (b : Int) (hb : Sp.newK b ≠ b ∨ b = 0) => o20e b (rH (N + 1)) (by omega) (by rw [(bad b hb).2]; decide)
   have kb3 := fun (b : Int) (hb : Sp.newK b ≠ b ∨ b = 0) => nil_34 (o19e b (rH (N + 1)) [] [] (by omega) (by rw [(bad b hb).1]; decide))
   have hver : ∀ b : Int, Sp.newK b ≠ b ∨ b = 0 → verM b (rH (N + 1)).cl [] [] = 1 := fun b hb => by
    unfold verM; rw [if_pos (by rw [(bad b hb).1]; decide)]; exact (bad b hb).1
   obtain ⟨bd, hb, hbd⟩ : ∃ bd : Int, (Sp.newK bd ≠ bd ∨ bd = 0) ∧ bd = (if 1 ≤ num % 256 ∧ num % 256 ≤ 4 then 0 else num % 256) := by
    refine ⟨_, ?_, rfl⟩
    split
    ·exact .inr rfl
    ·rename_i hnb
     unfold Sp.newK
     by_cases h0 : num % 256 = 0
     ·exact .inr h0
     ·exact .inl (by rw [if_pos (by omega)]; omega)
   have kb1 := kb1 bd hb
   have kb2 := kb2 bd hb
   have kb3 := kb3 bd hb
   rw [(bad bd hb).2] at kb1 kb2
   rw [hver bd hb] at kb3
   have kn1 := p_nil_3 (c16n 2 [])
   have kn2 := c20n 2
   have kn3 := p_nil_34 (c19n 2 [] [])
   have hwb := Hi.wr8 num
   generalize rH (N + 1) = x at *
   repeat' ((fail_if_success (with_reducible show awp _ _ (Code.seq (Code.seq (Code.region 14 _ _) (Code.cond _ _ _)) _) _ _)); first
    | (with_reducible first | refine r_seq ?_ | refine r_block ?_ | refine fork_not ?_ | refine fork_and ?_ | refine fork_or ?_ | refine chk_ok (by kernel_rfl) ?_)
    | ((with_reducible first | refine fork_dec ?_ ?_ | refine fork_eq ?_ ?_ | refine fork_ne ?_ ?_ | refine fork_intro ?_ ?_) <;> intro h <;> try (exfalso; first | omega | exact h rfl | (revert h; decide) | (cases h; done)))
    | ((with_reducible show False); omega)
    | ((first | (with_reducible first | refine r_exit ?_ | refine r_skip ?_ | refine r_cond ?_ | refine r_region ?_ | refine r_ret ?_ | show VX _ _ _ _ _ _ _ | show vstep _ _ _ _ _ | show vskip _ _ _ | show withV _ _) | ((with_reducible show endA _ _ _ _ _ _ _); simp -implicitDefEqProofs only [endA]) | (with_reducible first | refine pick_viewG default (by first | omega | (simp only [LN]; omega)) (by first | omega | (simp only [LN]; omega)) ?_ | refine pick_own default (by first | omega | (simp only [LN]; omega)) ?_ | refine And.intro (by first | decide | omega | assumption | (simp only [LN]; omega)) ?_) | (with_reducible first | apply callK_lent | apply callF_lent | apply hideP_own) | ((with_reducible apply callA_go); (first | exact kchk | exact kpre | fail)) | ((with_reducible show pickE _ _ _); first | refine pickE_intro _ ⟨by omega, by rfl⟩ ?_ | refine pickE_intro _ (by rfl) ?_) | fail); try simp -dsimp -implicitDefEqProofs (maxSteps := 1000000) (disch := first | omega | (simp only [LN]; omega)) only [go_sem])
    | fail)
   refine r_cut (α := Nat) [0, 5, 7, 8] (fun u b => []) (fun u b => []) (fun u => []) (fun u => u = 0) ?I_2 ?hI_2 ?way_2 ?rest_2
   case hI_2 => intro x; (simp -dsimp -implicitDefEqProofs (maxSteps := 1000000) (disch := first | omega | (simp only [LN]; omega)) only [go_sem]) <;> exact rfl
   case way_2 =>
    rcases hc with ⟨rfl, rfl, h10⟩ | ⟨rfl, rfl, h10⟩
    all_goals
     repeat' (first
      | (with_reducible first | refine r_seq ?_ | refine r_block ?_ | refine fork_not ?_ | refine fork_and ?_ | refine fork_or ?_ | refine chk_ok (by kernel_rfl) ?_)
      | ((with_reducible first | refine fork_dec ?_ ?_ | refine fork_eq ?_ ?_ | refine fork_ne ?_ ?_ | refine fork_intro ?_ ?_) <;> intro h <;> try (exfalso; first | omega | exact h rfl | (revert h; decide) | (cases h; done)))
      | ((with_reducible show False); omega)
      | ((first | (with_reducible first | refine r_exit ?_ | refine r_skip ?_ | refine r_cond ?_ | refine r_region ?_ | refine r_ret ?_ | show VX _ _ _ _ _ _ _ | show vstep _ _ _ _ _ | show vskip _ _ _ | show withV _ _) | ((with_reducible show endA _ _ _ _ _ _ _); simp -implicitDefEqProofs only [endA]) | (with_reducible first | refine pick_viewG default (by first | omega | (simp only [LN]; omega)) (by first | omega | (simp only [LN]; omega)) ?_ | refine pick_own default (by first | omega | (simp only [LN]; omega)) ?_ | refine And.intro (by first | decide | omega | assumption | (simp only [LN]; omega)) ?_) | ((with_reducible show pickE _ _ _); first | refine pickE_intro _ ⟨by omega, by rfl⟩ ?_ | refine pickE_intro _ (by rfl) ?_) | fail); try simp -dsimp -implicitDefEqProofs (maxSteps := 1000000) (disch := first | omega | (simp only [LN]; omega)) only [go_sem])
      | fail)
     all_goals first | omega | (refine cut_next (0) ?_ ?_; (rfl); (simp -dsimp -implicitDefEqProofs (maxSteps := 1000000) (disch := first | omega | (simp only [LN]; omega)) only [go_sem]; try trivial))
   case rest_2 =>
    intro u hu
    repeat' (first
     | (with_reducible first | refine r_seq ?_ | refine r_block ?_ | refine fork_not ?_ | refine fork_and ?_ | refine fork_or ?_ | refine chk_ok (by kernel_rfl) ?_)
     | ((with_reducible first | refine fork_dec ?_ ?_ | refine fork_eq ?_ ?_ | refine fork_ne ?_ ?_ | refine fork_intro ?_ ?_) <;> intro h <;> try (exfalso; first | omega | exact h rfl | (revert h; decide) | (cases h; done)))
     | ((with_reducible show False); omega)
     | ((first | (with_reducible first | refine r_exit ?_ | refine r_skip ?_ | refine r_cond ?_ | refine r_region ?_ | refine r_ret ?_ | show VX _ _ _ _ _ _ _ | show vstep _ _ _ _ _ | show vskip _ _ _ | show withV _ _) | ((with_reducible show endA _ _ _ _ _ _ _); simp -implicitDefEqProofs only [endA]) | (with_reducible first | refine pick_viewG default (by first | omega | (simp only [LN]; omega)) (by first | omega | (simp only [LN]; omega)) ?_ | refine pick_own default (by first | omega | (simp only [LN]; omega)) ?_ | refine And.intro (by first | decide | omega | assumption | (simp only [LN]; omega)) ?_) | ((with_reducible show pickE _ _ _); first | refine pickE_intro _ ⟨by omega, by rfl⟩ ?_ | refine pickE_intro _ (by rfl) ?_) | fail); try simp -dsimp -implicitDefEqProofs (maxSteps := 1000000) (disch := first | omega | (simp only [LN]; omega)) only [go_sem])
     | fail)
    refine r_loopA (α := Nat) [0, 5, 7, 97] (fun j b => [(16, .sl b 1 0 j), (98, aI j)]) (fun j b => []) (fun j => [.arr 1 ((upT j).map eI)]) (fun j => j ≤ N + 1) (fun j => N + 1 - j) (0) ?h0_3 ?hs0_3 ?I_3 ?hI_3 ?round_3
    case hI_3 => intro x; (simp -dsimp -implicitDefEqProofs (maxSteps := 1000000) (disch := first | omega | (simp only [LN]; omega)) only [go_sem]) <;> exact rfl
    case hs0_3 => refine wk_auto ?_; (simp -dsimp -implicitDefEqProofs (maxSteps := 1000000) (disch := first | omega | (simp only [LN, upT_0]; omega)) only [go_sem, upT_0]) <;> (try omega)
    case h0_3 => exact Nat.zero_le _
    case round_3 =>
     intro j hj0
     by_cases hj : j < N + 1
     ·have hus := upT_s j
      have hujl := upT_len j
      repeat' (first
       | (with_reducible first | refine r_seq ?_ | refine r_block ?_ | refine fork_not ?_ | refine fork_and ?_ | refine fork_or ?_ | refine chk_ok (by kernel_rfl) ?_)
       | ((with_reducible first | refine fork_dec ?_ ?_ | refine fork_eq ?_ ?_ | refine fork_ne ?_ ?_ | refine fork_intro ?_ ?_) <;> intro h <;> try (exfalso; first | omega | exact h rfl | (revert h; decide) | (cases h; done)))
       | ((with_reducible show False); omega)
       | ((first | (with_reducible first | refine r_exit ?_ | refine r_skip ?_ | refine r_cond ?_ | refine r_region ?_ | refine r_ret ?_ | show VX _ _ _ _ _ _ _ | show vstep _ _ _ _ _ | show vskip _ _ _ | show withV _ _) | ((with_reducible show endA _ _ _ _ _ _ _); simp -implicitDefEqProofs only [endA]) | (with_reducible first | refine pick_viewG default (by first | omega | (simp only [LN, hujl]; omega)) (by first | omega | (simp only [LN, hujl]; omega)) ?_ | refine pick_own default (by first | omega | (simp only [LN, hujl]; omega)) ?_ | refine And.intro (by first | decide | omega | assumption | (simp only [LN, hujl]; omega)) ?_) | ((with_reducible show pickE _ _ _); first | refine pickE_intro _ ⟨by omega, by rfl⟩ ?_ | refine pickE_intro _ (by rfl) ?_) | fail); try simp -dsimp -implicitDefEqProofs (maxSteps := 1000000) (disch := first | omega | (simp only [LN, hujl]; omega)) only [go_sem, hujl])
       | fail)
      all_goals first | omega | (refine loopQ_next (j + 1) ?_ ?_ ?_; (omega); (show _ < _; omega); (simp -dsimp -implicitDefEqProofs (maxSteps := 1000000) (disch := first | omega | (simp only [LN, hus, List.map_append]; omega)) only [go_sem, hus, List.map_append]; try trivial))
     ·obtain rfl : j = N + 1 := by omega
      repeat' ((fail_if_success (with_reducible show awp _ _ (Code.region 22 _ _) _ _)); first
       | (with_reducible first | refine r_seq ?_ | refine r_block ?_ | refine fork_not ?_ | refine fork_and ?_ | refine fork_or ?_ | refine chk_ok (by kernel_rfl) ?_)
       | ((with_reducible first | refine fork_dec ?_ ?_ | refine fork_eq ?_ ?_ | refine fork_ne ?_ ?_ | refine fork_intro ?_ ?_) <;> intro h <;> try (exfalso; first | omega | exact h rfl | (revert h; decide) | (cases h; done)))
       | ((with_reducible show False); omega)
       | ((first | (with_reducible first | refine r_exit ?_ | refine r_skip ?_ | refine r_cond ?_ | refine r_region ?_ | refine r_ret ?_ | show VX _ _ _ _ _ _ _ | show vstep _ _ _ _ _ | show vskip _ _ _ | show withV _ _) | ((with_reducible show endA _ _ _ _ _ _ _); simp -implicitDefEqProofs only [endA]) | (with_reducible first | refine pick_viewG default (by first | omega | (simp only [LN, hul]; omega)) (by first | omega | (simp only [LN, hul]; omega)) ?_ | refine pick_own default (by first | omega | (simp only [LN, hul]; omega)) ?_ | refine And.intro (by first | decide | omega | assumption | (simp only [LN, hul]; omega)) ?_) | ((with_reducible show pickE _ _ _); first | refine pickE_intro _ ⟨by omega, by rfl⟩ ?_ | refine pickE_intro _ (by rfl) ?_) | fail); try simp -dsimp -implicitDefEqProofs (maxSteps := 1000000) (disch := first | omega | (simp only [LN, hul]; omega)) only [go_sem, hul])
       | fail)
      refine r_frz [0, 5, 7] (fun b => [(16, .p (.view 1 ((upT (N + 1)).map eI)))]) fun I hI => ?_
      simp -dsimp -implicitDefEqProofs (maxSteps := 1000000) (disch := first | omega | (simp only [LN]; omega)) only [go_sem] at hI
      subst hI
      refine And.intro ?_ ?_
      ·(simp -dsimp -implicitDefEqProofs (maxSteps := 1000000) (disch := first | omega | (simp only [LN, hul]; omega)) only [go_sem, hul]) <;> (try omega)
      repeat' ((fail_if_success (with_reducible show awp _ _ (Code.seq (Code.seq (Code.region 25 _ _) (Code.cond _ _ _)) _) _ _)); first
       | (with_reducible first | refine r_seq ?_ | refine r_block ?_ | refine fork_not ?_ | refine fork_and ?_ | refine fork_or ?_ | refine chk_ok (by kernel_rfl) ?_)
       | ((with_reducible first | refine fork_dec ?_ ?_ | refine fork_eq ?_ ?_ | refine fork_ne ?_ ?_ | refine fork_intro ?_ ?_) <;> intro h <;> try (exfalso; first | omega | exact h rfl | (revert h; decide) | (cases h; done)))
       | ((with_reducible show False); omega)
       | ((first | (with_reducible first | refine r_exit ?_ | refine r_skip ?_ | refine r_cond ?_ | refine r_region ?_ | refine r_ret ?_ | show VX _ _ _ _ _ _ _ | show vstep _ _ _ _ _ | show vskip _ _ _ | show withV _ _) | ((with_reducible show endA _ _ _ _ _ _ _); simp -implicitDefEqProofs only [endA]) | (with_reducible first | refine pick_viewG default (by first | omega | (simp only [LN, hwb]; omega)) (by first | omega | (simp only [LN, hwb]; omega)) ?_ | refine pick_own default (by first | omega | (simp only [LN, hwb]; omega)) ?_ | refine And.intro (by first | decide | omega | assumption | (simp only [LN, hwb]; omega)) ?_) | (with_reducible first | apply callK_lent | apply callF_lent | apply hideP_own) | ((with_reducible apply callA_go); (first | exact kver | fail)) | ((with_reducible show pickE _ _ _); first | refine pickE_intro _ ⟨by omega, by rfl⟩ ?_ | refine pickE_intro _ (by rfl) ?_) | fail); try simp -dsimp -implicitDefEqProofs (maxSteps := 1000000) (disch := first | omega | (simp only [LN, hwb]; omega)) only [go_sem, hwb])
       | fail)
      refine r_cut (α := Nat) [5, 7] (fun v b => [(18, .p (.v (.int .u8 bd)))]) (fun v b => []) (fun v => []) (fun v => v = 0) ?I_4 ?hI_4 ?way_4 ?rest_4
      case hI_4 => intro x; (simp -dsimp -implicitDefEqProofs (maxSteps := 1000000) (disch := first | omega | (simp only [LN]; omega)) only [go_sem]) <;> exact rfl
      case way_4 =>
       by_cases hnb : 1 ≤ num % 256 ∧ num % 256 ≤ 4
       ·rw [if_pos hnb] at hbd
        subst hbd
        repeat' (first
         | (with_reducible first | refine r_seq ?_ | refine r_block ?_ | refine fork_not ?_ | refine fork_and ?_ | refine fork_or ?_ | refine chk_ok (by kernel_rfl) ?_)
         | ((with_reducible first | refine fork_dec ?_ ?_ | refine fork_eq ?_ ?_ | refine fork_ne ?_ ?_ | refine fork_intro ?_ ?_) <;> intro h <;> try (exfalso; first | omega | exact h rfl | (revert h; decide) | (cases h; done)))
         | ((with_reducible show False); omega)
         | ((first | (with_reducible first | refine r_exit ?_ | refine r_skip ?_ | refine r_cond ?_ | refine r_region ?_ | refine r_ret ?_ | show VX _ _ _ _ _ _ _ | show vstep _ _ _ _ _ | show vskip _ _ _ | show withV _ _) | ((with_reducible show endA _ _ _ _ _ _ _); simp -implicitDefEqProofs only [endA]) | (with_reducible first | refine pick_viewG default (by first | omega | (simp only [LN, hwb]; omega)) (by first | omega | (simp only [LN, hwb]; omega)) ?_ | refine pick_own default (by first | omega | (simp only [LN, hwb]; omega)) ?_ | refine And.intro (by first | decide | omega | assumption | (simp only [LN, hwb]; omega)) ?_) | ((with_reducible show pickE _ _ _); first | refine pickE_intro _ ⟨by omega, by rfl⟩ ?_ | refine pickE_intro _ (by rfl) ?_) | fail); try simp -dsimp -implicitDefEqProofs (maxSteps := 1000000) (disch := first | omega | (simp only [LN, hwb]; omega)) only [go_sem, hwb])
         | fail)
        all_goals first | omega | (refine cut_next (0) ?_ ?_; (rfl); (simp -dsimp -implicitDefEqProofs (maxSteps := 1000000) (disch := first | omega | (simp only [LN]; omega)) only [go_sem]; try trivial))
       ·rw [if_neg hnb] at hbd
        subst hbd
        repeat' (first
         | (with_reducible first | refine r_seq ?_ | refine r_block ?_ | refine fork_not ?_ | refine fork_and ?_ | refine fork_or ?_ | refine chk_ok (by kernel_rfl) ?_)
         | ((with_reducible first | refine fork_dec ?_ ?_ | refine fork_eq ?_ ?_ | refine fork_ne ?_ ?_ | refine fork_intro ?_ ?_) <;> intro h <;> try (exfalso; first | omega | exact h rfl | (revert h; decide) | (cases h; done)))
         | ((with_reducible show False); omega)
         | ((first | (with_reducible first | refine r_exit ?_ | refine r_skip ?_ | refine r_cond ?_ | refine r_region ?_ | refine r_ret ?_ | show VX _ _ _ _ _ _ _ | show vstep _ _ _ _ _ | show vskip _ _ _ | show withV _ _) | ((with_reducible show endA _ _ _ _ _ _ _); simp -implicitDefEqProofs only [endA]) | (with_reducible first | refine pick_viewG default (by first | omega | (simp only [LN, hwb]; omega)) (by first | omega | (simp only [LN, hwb]; omega)) ?_ | refine pick_own default (by first | omega | (simp only [LN, hwb]; omega)) ?_ | refine And.intro (by first | decide | omega | assumption | (simp only [LN, hwb]; omega)) ?_) | ((with_reducible show pickE _ _ _); first | refine pickE_intro _ ⟨by omega, by rfl⟩ ?_ | refine pickE_intro _ (by rfl) ?_) | fail); try simp -dsimp -implicitDefEqProofs (maxSteps := 1000000) (disch := first | omega | (simp only [LN, hwb]; omega)) only [go_sem, hwb])
         | fail)
        all_goals first | omega | (refine cut_next (0) ?_ ?_; (rfl); (simp -dsimp -implicitDefEqProofs (maxSteps := 1000000) (disch := first | omega | (simp only [LN]; omega)) only [go_sem]; try trivial))
      case rest_4 =>
       intro v hv0
       repeat' (first
        | (with_reducible first | refine r_seq ?_ | refine r_block ?_ | refine fork_not ?_ | refine fork_and ?_ | refine fork_or ?_ | refine chk_ok (by kernel_rfl) ?_)
        | ((with_reducible first | refine fork_dec ?_ ?_ | refine fork_eq ?_ ?_ | refine fork_ne ?_ ?_ | refine fork_intro ?_ ?_) <;> intro h <;> try (exfalso; first | omega | exact h rfl | (revert h; decide) | (cases h; done)))
        | ((with_reducible show False); omega)
        | ((first | (with_reducible first | refine r_exit ?_ | refine r_skip ?_ | refine r_cond ?_ | refine r_region ?_ | refine r_ret ?_ | show VX _ _ _ _ _ _ _ | show vstep _ _ _ _ _ | show vskip _ _ _ | show withV _ _) | ((with_reducible show endA _ _ _ _ _ _ _); simp -implicitDefEqProofs only [endA]) | (with_reducible first | refine pick_viewG default (by first | omega | (simp only [LN]; omega)) (by first | omega | (simp only [LN]; omega)) ?_ | refine pick_own default (by first | omega | (simp only [LN]; omega)) ?_ | refine And.intro (by first | decide | omega | assumption | (simp only [LN]; omega)) ?_) | ((with_reducible apply callK_pure); (first | exact kn1 | exact kn2 | exact kn3 | fail)) | ((with_reducible apply callF_lend); (first | exact kn1 | exact kn2 | exact kn3 | fail); rfl) | ((with_reducible apply callF_go); (first | exact kn1 | exact kn2 | exact kn3 | fail)) | (with_reducible first | apply callK_lent | apply callF_lent | apply hideP_own) | ((with_reducible apply callA_go); (first | exact kb1 | exact kb2 | exact kb3 | fail)) | ((with_reducible show pickE _ _ _); first | refine pickE_intro _ ⟨by omega, by rfl⟩ ?_ | refine pickE_intro _ (by rfl) ?_) | fail); try simp -dsimp -implicitDefEqProofs (maxSteps := 1000000) (disch := first | omega | (simp only [LN]; omega)) only [go_sem])
        | fail)
       refine r_loopA (α := Nat) [5] (fun k b => [(19, .p (.v (.int .u8 k)))]) (fun k b => []) (fun k => []) (fun k => 1 ≤ k ∧ k ≤ 5) (fun k => 5 - k) (1) ?h0_5 ?hs0_5 ?I_5 ?hI_5 ?round_5
       case hI_5 => intro x; (simp -dsimp -implicitDefEqProofs (maxSteps := 1000000) (disch := first | omega | (simp only [LN]; omega)) only [go_sem]) <;> exact rfl
       case hs0_5 => refine wk_auto ?_; (simp -dsimp -implicitDefEqProofs (maxSteps := 1000000) (disch := first | omega | (simp only [LN]; omega)) only [go_sem]) <;> (try omega)
       case h0_5 => exact ⟨Nat.le_refl _, by decide⟩
       case round_5 =>
        rintro k ⟨hk1, hk2⟩
        by_cases hk : k ≤ 4
        ·have hwo := Hi.wr8 op
         have hwo2 := Hi.w8b op
         have hwk : IntKind.i64.wrap (k : Int) = k := Hi.i64w (by omega) (by omega)
         have hwk1 : IntKind.u8.wrap ((k : Int) + 1) = ((k + 1 : Nat) : Int) := by rw [Hi.wr8]; omega
         have k19 := Hi.c19 op key val old
         have k8 := c8S (k : Int)
         have hnk : Sp.newK (k : Int) = k := by unfold Sp.newK; rw [if_neg (by omega)]
         have hok := ok_ini (k : Int) hnk
         have k13 := Sp.c13 (ini k) (Nat.le_trans hok.inv.ps (by decide)) (Nat.le_trans hok.inv.vs (by decide))
         have k11 := c11 (k : Int) (op % 256)
         by_cases hm : 1 ≤ op % 256 ∧ op % 256 ≤ 9
         ·have kinv := Hi.a18o Hi.h0 0 (op % 256) key val old (by decide) hm rfl (by decide) (by decide)
          have hcl : (Hi.invH Hi.h0 0 (op % 256) key val old).cl = [Hi.newC 0 (op % 256) key val old 0 0] := rfl
          obtain ⟨E, hE, hex, hce, hvm⟩ : ∃ E : Int, (E = if knowsM k (op % 256) = true then 0 else 13) ∧ examE k [Hi.newC 0 (op % 256) key val old 0 0] = E ∧ checkE k [Hi.newC 0 (op % 256) key val old 0 0] = E ∧ verM k [Hi.newC 0 (op % 256) key val old 0 0] [] (Sp.contM (ini k)) = E := by
           refine ⟨_, rfl, ?_⟩
           cases hkn : knowsM k (op % 256) with
           | true =>
            have hx : examE k [Hi.newC 0 (op % 256) key val old 0 0] = 0 := exam_0 (by omega) fun i hi => by
             have hi : i < 1 := hi
             obtain rfl : i = 0 := by omega
             exact not_bad hnk hkn
            rw [if_pos rfl]
            refine ⟨hx, by unfold checkE; rw [if_neg (fun h => h hx), if_neg (by simp)], ?_⟩
            unfold verM
            rw [if_neg (fun h => h hx), if_neg (fun h => h fun j hj => absurd hj (by simp)), if_neg (fun h => h fun a ha he => by
             have ha : a < 1 := ha
             obtain rfl : a = 0 := by omega
             exact absurd he (by show ¬ (0 : Int) ≤ -1; decide)), if_neg (fun h => h fun j hj => absurd hj (by simp)), if_neg (fun h => h fun j hj => absurd hj (by simp)), if_neg (fun h => h rfl)]
           | false =>
            have hx : examE k [Hi.newC 0 (op % 256) key val old 0 0] = 13 := exam_13 (by omega) (i := 0) (by simp) (bad_13 ⟨by omega, by omega⟩ hm hkn)
            rw [if_neg Bool.false_ne_true]
            refine ⟨hx, by unfold checkE; rw [hx]; rfl, ?_⟩
            unfold verM; rw [if_pos (by rw [hx]; decide)]; exact hx
          have hro : ∀ j, j < (Hi.invH Hi.h0 0 (op % 256) key val old).cl.length → RngO (opC ((Hi.invH Hi.h0 0 (op % 256) key val old).cl.getD j default)) := fun j hj => by
           rw [hcl] at hj ⊢
           have hj : j < 1 := hj
           obtain rfl : j = 0 := by omega
           exact ho
          obtain ⟨os, pl, ok, kchk, kpre, kver⟩ : ∃ (os pl : List PV) (ok : Bool),
            ACalls Tryd.prog 16 [.p (.v (.int .u8 k)), .loc 0 0, .p (.view 2 ((Sp.contM (ini k)).map Sp.eP))] [Hi.oH (Hi.invH Hi.h0 0 (op % 256) key val old) 1 2, .arr 2 ((Hi.invH Hi.h0 0 (op % 256) key val old).ev.map Hi.eE), .arr 11 ((Hi.invH Hi.h0 0 (op % 256) key val old).cl.map Hi.eC)] (.p (.tup [.view 1 os, .v (.bool ok), .v (.int .i64 E)])) [Hi.oH (Hi.invH Hi.h0 0 (op % 256) key val old) 1 2, .arr 2 ((Hi.invH Hi.h0 0 (op % 256) key val old).ev.map Hi.eE), .arr 11 ((Hi.invH Hi.h0 0 (op % 256) key val old).cl.map Hi.eC)] ∧
            ACalls Tryd.prog 20 [.p (.v (.int .u8 k)), .loc 0 0] [Hi.oH (Hi.invH Hi.h0 0 (op % 256) key val old) 1 2, .arr 2 ((Hi.invH Hi.h0 0 (op % 256) key val old).ev.map Hi.eE), .arr 11 ((Hi.invH Hi.h0 0 (op % 256) key val old).cl.map Hi.eC)] (.p (.tup [.view 1 pl, .v (.int .i64 E)])) [Hi.oH (Hi.invH Hi.h0 0 (op % 256) key val old) 1 2, .arr 2 ((Hi.invH Hi.h0 0 (op % 256) key val old).ev.map Hi.eE), .arr 11 ((Hi.invH Hi.h0 0 (op % 256) key val old).cl.map Hi.eC)] ∧
            ACalls Tryd.prog 19 [.p (.v (.int .u8 k)), .loc 0 0, .p (.v (.slice none 0 0)), .p (.view 2 ((Sp.contM (ini k)).map Sp.eP))] [Hi.oH (Hi.invH Hi.h0 0 (op % 256) key val old) 1 2, .arr 2 ((Hi.invH Hi.h0 0 (op % 256) key val old).ev.map Hi.eE), .arr 11 ((Hi.invH Hi.h0 0 (op % 256) key val old).cl.map Hi.eC)] (.p (.v (.int .i64 E))) [Hi.oH (Hi.invH Hi.h0 0 (op % 256) key val old) 1 2, .arr 2 ((Hi.invH Hi.h0 0 (op % 256) key val old).ev.map Hi.eE), .arr 11 ((Hi.invH Hi.h0 0 (op % 256) key val old).cl.map Hi.eC)] := by
           rw [← hcl] at hex hce hvm
           have hl1 : (Hi.invH Hi.h0 0 (op % 256) key val old).cl.length = 1 := rfl
           by_cases h0 : E = 0
           ·rw [h0] at hex hce hvm ⊢
            have k3 := nil_4 (o19 k _ [] (Sp.contM (ini k)) (by omega) (by decide) hex hro)
            rw [hvm] at k3
            exact ⟨_, _, _, o16 k _ _ hce hro, o20g k _ hce hro, k3⟩
           ·have k1 := o16e k (Hi.invH Hi.h0 0 (op % 256) key val old) (Sp.contM (ini k)) (by omega) (by rw [hce]; exact h0)
            have k2 := o20e k (Hi.invH Hi.h0 0 (op % 256) key val old) (by omega) (by rw [hce]; exact h0)
            have k3 := nil_4 (o19e k (Hi.invH Hi.h0 0 (op % 256) key val old) [] (Sp.contM (ini k)) (by omega) (by rw [hex]; exact h0))
            rw [hce] at k1 k2
            rw [hvm] at k3
            exact ⟨_, _, _, k1, k2, k3⟩
          clear hro hcl hex hce hvm
          generalize Hi.invH Hi.h0 0 (op % 256) key val old = y at *
          cases hkn : knowsM k (op % 256) with
          | true =>
           rw [hkn] at k11
           rw [hkn, if_pos rfl] at hE
           subst hE
           repeat' (first
            | (with_reducible first | refine r_seq ?_ | refine r_block ?_ | refine fork_not ?_ | refine fork_and ?_ | refine fork_or ?_ | refine chk_ok (by kernel_rfl) ?_)
            | ((with_reducible first | refine fork_dec ?_ ?_ | refine fork_eq ?_ ?_ | refine fork_ne ?_ ?_ | refine fork_intro ?_ ?_) <;> intro h <;> try (exfalso; first | omega | exact h rfl | (revert h; decide) | (cases h; done)))
            | ((with_reducible show False); omega)
            | ((first | (with_reducible first | refine r_exit ?_ | refine r_skip ?_ | refine r_cond ?_ | refine r_region ?_ | refine r_ret ?_ | show VX _ _ _ _ _ _ _ | show vstep _ _ _ _ _ | show vskip _ _ _ | show withV _ _) | ((with_reducible show endA _ _ _ _ _ _ _); simp -implicitDefEqProofs only [endA]) | (with_reducible first | refine pick_viewG default (by first | omega | (simp only [LN, hwo, hwo2, hwk, hwk1]; omega)) (by first | omega | (simp only [LN, hwo, hwo2, hwk, hwk1]; omega)) ?_ | refine pick_own default (by first | omega | (simp only [LN, hwo, hwo2, hwk, hwk1]; omega)) ?_ | refine And.intro (by first | decide | omega | assumption | (simp only [LN, hwo, hwo2, hwk, hwk1]; omega)) ?_) | ((with_reducible apply callK_pure); (first | exact k19 | exact k8 | exact k13 | exact k11 | fail)) | ((with_reducible apply callF_lend); (first | exact k19 | exact k8 | exact k13 | exact k11 | fail); rfl) | ((with_reducible apply callF_go); (first | exact k19 | exact k8 | exact k13 | exact k11 | fail)) | (with_reducible first | apply callK_lent | apply callF_lent | apply hideP_own) | ((with_reducible apply callA_go); (first | exact Hi.a10 | exact kinv | exact kchk | exact kpre | exact kver | fail)) | ((with_reducible show pickE _ _ _); first | refine pickE_intro _ ⟨by omega, by rfl⟩ ?_ | refine pickE_intro _ (by rfl) ?_) | fail); try simp -dsimp -implicitDefEqProofs (maxSteps := 1000000) (disch := first | omega | (simp only [LN, hwo, hwo2, hwk, hwk1]; omega)) only [go_sem, hwo, hwo2, hwk, hwk1])
            | fail)
           all_goals first | omega | (refine loopQ_next (k + 1) ?_ ?_ ?_; (omega); (show _ < _; omega); (simp -dsimp -implicitDefEqProofs (maxSteps := 1000000) (disch := first | omega | (simp only [LN]; omega)) only [go_sem]; try trivial))
          | false =>
           rw [hkn] at k11
           rw [hkn, if_neg Bool.false_ne_true] at hE
           subst hE
           repeat' (first
            | (with_reducible first | refine r_seq ?_ | refine r_block ?_ | refine fork_not ?_ | refine fork_and ?_ | refine fork_or ?_ | refine chk_ok (by kernel_rfl) ?_)
            | ((with_reducible first | refine fork_dec ?_ ?_ | refine fork_eq ?_ ?_ | refine fork_ne ?_ ?_ | refine fork_intro ?_ ?_) <;> intro h <;> try (exfalso; first | omega | exact h rfl | (revert h; decide) | (cases h; done)))
            | ((with_reducible show False); omega)
            | ((first | (with_reducible first | refine r_exit ?_ | refine r_skip ?_ | refine r_cond ?_ | refine r_region ?_ | refine r_ret ?_ | show VX _ _ _ _ _ _ _ | show vstep _ _ _ _ _ | show vskip _ _ _ | show withV _ _) | ((with_reducible show endA _ _ _ _ _ _ _); simp -implicitDefEqProofs only [endA]) | (with_reducible first | refine pick_viewG default (by first | omega | (simp only [LN, hwo, hwo2, hwk, hwk1]; omega)) (by first | omega | (simp only [LN, hwo, hwo2, hwk, hwk1]; omega)) ?_ | refine pick_own default (by first | omega | (simp only [LN, hwo, hwo2, hwk, hwk1]; omega)) ?_ | refine And.intro (by first | decide | omega | assumption | (simp only [LN, hwo, hwo2, hwk, hwk1]; omega)) ?_) | ((with_reducible apply callK_pure); (first | exact k19 | exact k8 | exact k13 | exact k11 | fail)) | ((with_reducible apply callF_lend); (first | exact k19 | exact k8 | exact k13 | exact k11 | fail); rfl) | ((with_reducible apply callF_go); (first | exact k19 | exact k8 | exact k13 | exact k11 | fail)) | (with_reducible first | apply callK_lent | apply callF_lent | apply hideP_own) | ((with_reducible apply callA_go); (first | exact Hi.a10 | exact kinv | exact kchk | exact kpre | exact kver | fail)) | ((with_reducible show pickE _ _ _); first | refine pickE_intro _ ⟨by omega, by rfl⟩ ?_ | refine pickE_intro _ (by rfl) ?_) | fail); try simp -dsimp -implicitDefEqProofs (maxSteps := 1000000) (disch := first | omega | (simp only [LN, hwo, hwo2, hwk, hwk1]; omega)) only [go_sem, hwo, hwo2, hwk, hwk1])
            | fail)
           all_goals first | omega | (refine loopQ_next (k + 1) ?_ ?_ ?_; (omega); (show _ < _; omega); (simp -dsimp -implicitDefEqProofs (maxSteps := 1000000) (disch := first | omega | (simp only [LN]; omega)) only [go_sem]; try trivial))
         ·have kinv := Hi.a18b Hi.h0 0 (op % 256) key val old (by omega) (by decide) (by decide)
          repeat' (first
           | (with_reducible first | refine r_seq ?_ | refine r_block ?_ | refine fork_not ?_ | refine fork_and ?_ | refine fork_or ?_ | refine chk_ok (by kernel_rfl) ?_)
           | ((with_reducible first | refine fork_dec ?_ ?_ | refine fork_eq ?_ ?_ | refine fork_ne ?_ ?_ | refine fork_intro ?_ ?_) <;> intro h <;> try (exfalso; first | omega | exact h rfl | (revert h; decide) | (cases h; done)))
           | ((with_reducible show False); omega)
           | ((first | (with_reducible first | refine r_exit ?_ | refine r_skip ?_ | refine r_cond ?_ | refine r_region ?_ | refine r_ret ?_ | show VX _ _ _ _ _ _ _ | show vstep _ _ _ _ _ | show vskip _ _ _ | show withV _ _) | ((with_reducible show endA _ _ _ _ _ _ _); simp -implicitDefEqProofs only [endA]) | (with_reducible first | refine pick_viewG default (by first | omega | (simp only [LN, hwo, hwo2]; omega)) (by first | omega | (simp only [LN, hwo, hwo2]; omega)) ?_ | refine pick_own default (by first | omega | (simp only [LN, hwo, hwo2]; omega)) ?_ | refine And.intro (by first | decide | omega | assumption | (simp only [LN, hwo, hwo2]; omega)) ?_) | ((with_reducible apply callK_pure); (exact k19)) | ((with_reducible apply callF_lend); (exact k19); rfl) | ((with_reducible apply callF_go); (exact k19)) | (with_reducible first | apply callK_lent | apply callF_lent | apply hideP_own) | ((with_reducible apply callA_go); (first | exact Hi.a10 | exact kinv | fail)) | ((with_reducible show pickE _ _ _); first | refine pickE_intro _ ⟨by omega, by rfl⟩ ?_ | refine pickE_intro _ (by rfl) ?_) | fail); try simp -dsimp -implicitDefEqProofs (maxSteps := 1000000) (disch := first | omega | (simp only [LN, hwo, hwo2]; omega)) only [go_sem, hwo, hwo2])
           | fail)
          all_goals first | omega | rfl | (exact congrArg Value.bool (decide_eq_true (by omega)))
        ·obtain rfl : k = 5 := by omega
         repeat' (first
          | (with_reducible first | refine r_seq ?_ | refine r_block ?_ | refine fork_not ?_ | refine fork_and ?_ | refine fork_or ?_ | refine chk_ok (by kernel_rfl) ?_)
          | ((with_reducible first | refine fork_dec ?_ ?_ | refine fork_eq ?_ ?_ | refine fork_ne ?_ ?_ | refine fork_intro ?_ ?_) <;> intro h <;> try (exfalso; first | omega | exact h rfl | (revert h; decide) | (cases h; done)))
          | ((with_reducible show False); omega)
          | ((first | (with_reducible first | refine r_exit ?_ | refine r_skip ?_ | refine r_cond ?_ | refine r_region ?_ | refine r_ret ?_ | show VX _ _ _ _ _ _ _ | show vstep _ _ _ _ _ | show vskip _ _ _ | show withV _ _) | ((with_reducible show endA _ _ _ _ _ _ _); simp -implicitDefEqProofs only [endA]) | (with_reducible first | refine pick_viewG default (by first | omega | (simp only [LN]; omega)) (by first | omega | (simp only [LN]; omega)) ?_ | refine pick_own default (by first | omega | (simp only [LN]; omega)) ?_ | refine And.intro (by first | decide | omega | assumption | (simp only [LN]; omega)) ?_) | ((with_reducible show pickE _ _ _); first | refine pickE_intro _ ⟨by omega, by rfl⟩ ?_ | refine pickE_intro _ (by rfl) ?_) | fail); try simp -dsimp -implicitDefEqProofs (maxSteps := 1000000) (disch := first | omega | (simp only [LN]; omega)) only [go_sem])
          | fail)
         all_goals first | omega | rfl
end Go.Proofs.YtpcjeaaplidmaaaDoor