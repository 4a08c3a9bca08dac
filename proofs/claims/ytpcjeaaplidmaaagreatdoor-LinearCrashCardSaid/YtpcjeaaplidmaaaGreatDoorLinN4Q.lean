/- Contracts of functions of this program, and the plain facts that they rest on. No conditions. -/
import Derived.Test.YtpcjeaaplidmaaaGreatDoorLinN3Q
import Derived.Test.YtpcjeaaplidmaaaGreatDoorLinKQ
import Derived.Test.YtpcjeaaplidmaaaGreatDoorLinLQ
import Derived.Test.YtpcjeaaplidmaaaGreatDoorLinV3Q
set_option linter.unusedSimpArgs false
set_option linter.unusedVariables false
namespace Go.Proofs.YtpcjeaaplidmaaaGreatDoor
open Go Go.Ab
attribute [local irreducible] callK callF loopQ vstep vskip pickE hideP
open Go.RowKit
set_option maxRecDepth 100000
theorem bef_more {cl : List Hi.C} {c : Hi.C} {i a : Nat} (hi : i < cl.length) (ha : a < cl.length) (h : Hi.befM (cl ++ [c]) (i : Int) (a : Int)) : Hi.befM cl (i : Int) (a : Int) := by
 unfold Hi.befM at h ⊢
 simp only [Int.toNat_natCast, Hi.gA_lt _ _ _ _ hi, Hi.gA_lt _ _ _ _ ha] at h ⊢
 exact ⟨by omega, by omega, h.2.2⟩
theorem can_more {cl : List Hi.C} {c : Hi.C} {s : Sp.S} {u i : Nat} (hu : u.testBit cl.length = false) (h : can cl s u i) : can (cl ++ [c]) s u i := by
 obtain ⟨h1, h2, h3⟩ := h
 obtain ⟨g1, g2⟩ := skip_false.1 h2
 refine ⟨by rw [List.length_append]; omega, skip_false.2 ⟨g1, fun a ha hb hbef => ?_⟩, ?_⟩
 ·rw [List.length_append, List.length_cons, List.length_nil] at ha
  rcases Nat.lt_or_ge a cl.length with hl | hl
  ·exact g2 a hl hb (bef_more h1 hl hbef)
  ·obtain rfl : a = cl.length := by omega
   rw [hu] at hb; cases hb
 ·unfold stepB at h3 ⊢
  rw [Hi.gA_lt _ _ _ _ h1]; exact h3
theorem nxt_more {cl : List Hi.C} {c : Hi.C} {s : Sp.S} {i : Nat} (h : i < cl.length) : nxt (cl ++ [c]) s i = nxt cl s i := by
 unfold nxt; rw [Hi.gA_lt _ _ _ _ h]
theorem path_more {cl : List Hi.C} {c : Hi.C} : ∀ (o : List Nat) (s : Sp.S) (u : Nat), u.testBit cl.length = false → pathOk cl s u o → pathOk (cl ++ [c]) s u o ∧ endS (cl ++ [c]) s o = endS cl s o ∧ (endU u o).testBit cl.length = false
 | [], s, u, hu, _ => ⟨trivial, rfl, hu⟩
 | i :: o, s, u, hu, h => by
  have hi := h.1.1
  have hu2 : (u ||| 2 ^ i).testBit cl.length = false := by
   rw [Nat.testBit_or, Nat.testBit_two_pow, hu]
   simp; omega
  obtain ⟨a1, a2, a3⟩ := path_more o (nxt cl s i) (u ||| 2 ^ i) hu2 h.2
  refine ⟨⟨can_more hu h.1, ?_⟩, ?_, a3⟩
  ·rw [nxt_more hi]; exact a1
  ·show endS (cl ++ [c]) (nxt (cl ++ [c]) s i) o = endS cl (nxt cl s i) o
   rw [nxt_more hi]; exact a2
theorem good_more {cl : List Hi.C} {c : Hi.C} (hc : c.en < 0) {F : Sp.S → Bool} {s : Sp.S} {o : List Nat} (h : good cl F s 0 o) : good (cl ++ [c]) F s 0 o := by
 obtain ⟨h1, h2, h3⟩ := h
 obtain ⟨a1, a2, _⟩ := path_more (c := c) o s 0 (Nat.zero_testBit _) h1
 refine ⟨a1, end_sub.2 fun a ha he => ?_, by rw [a2]; exact h3⟩
 rw [List.length_append, List.length_cons, List.length_nil] at ha
 rcases Nat.lt_or_ge a cl.length with hl | hl
 ·rw [Hi.gA_lt _ _ _ _ hl] at he
  exact end_sub.1 h2 a hl he
 ·obtain rfl : a = cl.length := by omega
  rw [Hi.gA_eq] at he; omega
theorem pre_more {k : Int} {cl : List Hi.C} {c : Hi.C} {x : LP} (hk : Sp.newK k = k) (hro : ∀ i, i < cl.length → RngO (opC (cl.getD i default))) (hro' : ∀ i, i < (cl ++ [c]).length → RngO (opC ((cl ++ [c]).getD i default))) (hl : cl.length ≤ 9) (hc : c.en < 0) (h : x ∈ preL k cl) : x ∈ preL k (cl ++ [c]) := by
 obtain ⟨o, ho⟩ := (pre_mem hk hro (by omega)).1 h
 exact (pre_mem hk hro' (by rw [List.length_append]; simp; omega)).2 ⟨o, good_more hc ho⟩
theorem preL_len {k : Int} {cl : List Hi.C} (hl : cl.length ≤ 10) : (preL k cl).length ≤ 100000000000 := by
 unfold preL
 exact Nat.le_trans (dd_len _) (by rw [srtL_len]; exact prefR_len k cl hl)
theorem end_ok {cl : List Hi.C} (hro : ∀ i, i < cl.length → RngO (opC (cl.getD i default))) : ∀ (o : List Nat) (s : Sp.S) (u b : Nat), OkS s b → pathOk cl s u o → OkS (endS cl s o) (b + o.length)
 | [], s, u, b, h, _ => h
 | i :: o, s, u, b, h, hp => by
  have := end_ok hro o (nxt cl s i) (u ||| 2 ^ i) (b + 1) (ok_apply h (hro i hp.1.1)) hp.2
  rw [List.length_cons, show b + (o.length + 1) = b + 1 + o.length by omega]
  exact this
theorem pre_len {k : Int} {cl : List Hi.C} (hk : Sp.newK k = k) (hro : ∀ i, i < cl.length → RngO (opC (cl.getD i default))) (hl : cl.length ≤ 10) {x : LP} (h : x ∈ preL k cl) : x.length ≤ 100 := by
 obtain ⟨o, h1, h2, h3⟩ := (pre_mem hk hro hl).1 h
 have h4 := path_len _ _ _ h1
 have h5 := free_le 0 cl.length
 have h6 := Sp.cont_len (end_ok hro o (ini k) 0 0 (ok_ini k hk) h1).inv
 have h7 : Sp.contM (endS cl (ini k) o) = x := of_decide_eq_true h3
 rw [h7] at h6
 omega
theorem mem_getD {S : List LP} {i : Nat} (hi : i < S.length) : S.getD i default ∈ S := by
 rw [List.getD_eq_getElem?_getD, List.getElem?_eq_getElem hi]; exact List.getElem_mem hi
theorem take_mem {T : List LP} {X : LP} {i : Nat} (h : i < T.length) : X ∈ T.take (i + 1) ↔ X ∈ T.take i ∨ X = T.getD i default := by
 rw [take_getD default h, List.mem_append, List.mem_singleton]
attribute [local go_sem] eLot Hi.eC Hi.rC Hi.eE Hi.hc Hi.hP Hi.hX Hi.hW Hi.oH eI eB eL Hi.oW Hi.oP
set_option maxRecDepth 100000 in
set_option maxHeartbeats 4000000 in
theorem c13 (l : LP) (hl : l.length ≤ 100000) : PCalls Tryz.prog 13 [.view 2 (l.map Sp.eP)] (.view 2 (l.map Sp.eP)) := by
 refine pcalls_facts ⟨_, rfl, rfl, by decide⟩ fun hf => ?_
 simp only [go_sem, big] at hf
 refine pcalls_of (E := E) (fn := Tryz.f13) 22 [.tmp 2] rfl rfl rfl rfl (by decide) rfl ?_
 repeat' (first
  | (with_reducible first | refine r_seq ?_ | refine r_block ?_ | refine fork_not ?_ | refine fork_and ?_ | refine fork_or ?_ | refine chk_ok (by kernel_rfl) ?_)
  | ((with_reducible first | refine fork_dec ?_ ?_ | refine fork_eq ?_ ?_ | refine fork_ne ?_ ?_ | refine fork_intro ?_ ?_) <;> intro h)
  | ((with_reducible show False); omega)
  | ((first | (with_reducible first | refine r_exit ?_ | refine r_skip ?_ | refine r_cond ?_ | refine r_region ?_ | refine r_ret ?_ | show VX _ _ _ _ _ _ _ | show vstep _ _ _ _ _ | show vskip _ _ _ | show withV _ _) | ((with_reducible show endA _ _ _ _ _ _ _); simp -implicitDefEqProofs only [endA]) | (with_reducible first | refine pick_viewG default (by first | omega | (simp only [LN]; omega)) (by first | omega | (simp only [LN]; omega)) ?_ | refine pick_own default (by first | omega | (simp only [LN]; omega)) ?_ | refine And.intro (by first | decide | omega | assumption | (simp only [LN]; omega)) ?_) | ((with_reducible show pickE _ _ _); first | refine pickE_intro _ ⟨by omega, by rfl⟩ ?_ | refine pickE_intro _ (by rfl) ?_) | fail); try simp -dsimp -implicitDefEqProofs (maxSteps := 1000000) (disch := first | omega | (simp only [LN]; omega)) only [go_sem])
  | fail)
 refine r_loopA (α := Nat) [6, 7] (fun i b => [(3, .sl b 2 0 i), (8, aI i)]) (fun i b => []) (fun i => [.arr 2 ((l.take i).map Sp.eP)]) (fun i => i ≤ l.length) (fun i => l.length - i) (0) ?h0_1 ?hs0_1 ?I_1 ?hI_1 ?round_1
 case hI_1 => intro x; (simp -dsimp -implicitDefEqProofs (maxSteps := 1000000) (disch := first | omega | (simp only [LN]; omega)) only [go_sem]) <;> exact rfl
 case hs0_1 => refine wk_auto ?_; (simp -dsimp -implicitDefEqProofs (maxSteps := 1000000) (disch := first | omega | (simp only [LN]; omega)) only [go_sem]) <;> (try omega)
 case h0_1 => omega
 case round_1 =>
  intro i h1
  by_cases hi : i < l.length
  ·have e := take_getD (default : Int × Int) hi
   repeat' (first
    | (with_reducible first | refine r_seq ?_ | refine r_block ?_ | refine fork_not ?_ | refine fork_and ?_ | refine fork_or ?_ | refine chk_ok (by kernel_rfl) ?_)
    | ((with_reducible first | refine fork_dec ?_ ?_ | refine fork_eq ?_ ?_ | refine fork_ne ?_ ?_ | refine fork_intro ?_ ?_) <;> intro h <;> try (exfalso; first | omega | exact h rfl | (revert h; decide) | (cases h; done)))
    | ((with_reducible show False); omega)
    | ((first | (with_reducible first | refine r_exit ?_ | refine r_skip ?_ | refine r_cond ?_ | refine r_region ?_ | refine r_ret ?_ | show VX _ _ _ _ _ _ _ | show vstep _ _ _ _ _ | show vskip _ _ _ | show withV _ _) | ((with_reducible show endA _ _ _ _ _ _ _); simp -implicitDefEqProofs only [endA]) | (with_reducible first | refine pick_viewG default (by first | omega | (simp only [LN]; omega)) (by first | omega | (simp only [LN]; omega)) ?_ | refine pick_own default (by first | omega | (simp only [LN]; omega)) ?_ | refine And.intro (by first | decide | omega | assumption | (simp only [LN]; omega)) ?_) | ((with_reducible show pickE _ _ _); first | refine pickE_intro _ ⟨by omega, by rfl⟩ ?_ | refine pickE_intro _ (by rfl) ?_) | fail); try simp -dsimp -implicitDefEqProofs (maxSteps := 1000000) (disch := first | omega | (simp only [LN]; omega)) only [go_sem])
    | fail)
   all_goals first | omega | (refine loopQ_next (i + 1) ?_ ?_ ?_; (omega); (show _ < _; omega); (simp -dsimp -implicitDefEqProofs (maxSteps := 1000000) (disch := first | omega | (simp only [LN, e, List.map_append]; omega)) only [go_sem, e, List.map_append]; try trivial))
  ·obtain rfl : i = l.length := by omega
   repeat' (first
    | (with_reducible first | refine r_seq ?_ | refine r_block ?_ | refine fork_not ?_ | refine fork_and ?_ | refine fork_or ?_ | refine chk_ok (by kernel_rfl) ?_)
    | ((with_reducible first | refine fork_dec ?_ ?_ | refine fork_eq ?_ ?_ | refine fork_ne ?_ ?_ | refine fork_intro ?_ ?_) <;> intro h <;> try (exfalso; first | omega | exact h rfl | (revert h; decide) | (cases h; done)))
    | ((with_reducible show False); omega)
    | ((first | (with_reducible first | refine r_exit ?_ | refine r_skip ?_ | refine r_cond ?_ | refine r_region ?_ | refine r_ret ?_ | show VX _ _ _ _ _ _ _ | show vstep _ _ _ _ _ | show vskip _ _ _ | show withV _ _) | ((with_reducible show endA _ _ _ _ _ _ _); simp -implicitDefEqProofs only [endA]) | (with_reducible first | refine pick_viewG default (by first | omega | (simp only [LN]; omega)) (by first | omega | (simp only [LN]; omega)) ?_ | refine pick_own default (by first | omega | (simp only [LN]; omega)) ?_ | refine And.intro (by first | decide | omega | assumption | (simp only [LN]; omega)) ?_) | ((with_reducible show pickE _ _ _); first | refine pickE_intro _ ⟨by omega, by rfl⟩ ?_ | refine pickE_intro _ (by rfl) ?_) | fail); try simp -dsimp -implicitDefEqProofs (maxSteps := 1000000) (disch := first | omega | (simp only [LN]; omega)) only [go_sem])
    | fail)
   all_goals first | omega | (rw [List.take_length]; done)
attribute [local irreducible] sF finR checkR verM refV plH kdI preL
set_option maxRecDepth 100000 in
set_option maxHeartbeats 4000000 in
theorem l4 (kd : Int) (l : List Hi.S) (op key val old : Int) (hr : ∀ s, s ∈ l → RngS s) (ho : U64 key ∧ U64 val ∧ U64 old) : PCalls Tryz.prog 4 [eLot kd l, Hi.oW op key val old] (.v (.bool true)) := by
 refine pcalls_of (E := E) (fn := Tryz.f4) 147 [.tmp 4] rfl rfl rfl rfl (by decide) rfl ?_
 have h1 := pl_calls kd l 5 (min l.length 40)
 have h2 := pl_ops kd l 5 hr (min l.length 40)
 have h3 := newK_kd kd
 have h4 := exam_ok h2
 have h5 := pl_len kd l 5 (min l.length 40)
 have hI := pl_inv kd l 5 (min l.length 40)
 have k18 := a18 kd l 5 (by decide)
 have k7 := c7 kd l
 have hkr := kdM_rng kd
 have hkd : 1 ≤ kdI kd ∧ kdI kd ≤ 4 := by unfold kdI; omega
 have hex : ∀ cl, OpsOk (kdI kd) cl → cl.length ≤ 6 → checkE (kdI kd) cl = 0 := fun cl hc hl => by
  unfold checkE; rw [if_neg (fun h => h (exam_ok hc)), if_neg (by omega)]
 generalize plH kd l 5 (min l.length 40) = x at *
 generalize kdI kd = k at *
 have hw : IntKind.u8.wrap k = k := by rw [IntKind.wrap_u8]; omega
 have hera := hI.era
 have hro := fun i hi => (h2 i hi).2
 have hc0 := hex x.cl h2 (by omega)
 have k20 := o20g k x hc0 hro
 have k17 := Hi.a17 x ⟨hera, by omega⟩ (by omega) (by omega)
 have hIc := Hi.inv_crash hI
 have e1 : (Hi.crashH x).cl = x.cl := rfl
 have e2 : (Hi.crashH x).era = x.era + 1 := rfl
 have e3 : (Hi.crashH x).ev.length = x.ev.length + 1 := by unfold Hi.crashH; simp
 have k21 := o20g k (Hi.crashH x) hc0 hro
 have k11 := c11 k op
 have k29 := Hi.c29 x.cl x.ev.length x.era (by omega) (by omega)
 have hln := fun (f : LP) (hf : f ∈ preL k x.cl) => pre_len h3.1 hro (by omega) hf
 have hSl : (preL k x.cl).length ≤ 100000000000 := preL_len (by omega)
 obtain ⟨S, hS⟩ : ∃ S, preL k x.cl = S := ⟨_, rfl⟩
 rw [hS] at hSl
 have hb0 : (Hi.crashH x).b 0 = false := rfl
 have same : ∀ i, i < S.length → (S.getD i default).length ≤ 100 ∧ PCalls Tryz.prog 12 [.view 2 ((S.getD i default).map Sp.eP), .view 2 ((S.getD i default).map Sp.eP)] (.v (.bool true)) := fun i hi => by
  have k12 := r12 (S.getD i default) (S.getD i default)
  rw [decide_eq_true rfl] at k12
  exact ⟨hln _ (by rw [hS]; exact mem_getD hi), k12⟩
 cases hkn : knowsM k op with
 | false =>
  rw [hkn] at k11
  rw [hS] at k20
  rw [show preL k (Hi.crashH x).cl = S from hS] at k21
  generalize Hi.crashH x = y at *
  repeat' (first
   | (with_reducible first | refine r_seq ?_ | refine r_block ?_ | refine fork_not ?_ | refine fork_and ?_ | refine fork_or ?_ | refine chk_ok (by kernel_rfl) ?_)
   | ((with_reducible first | refine fork_dec ?_ ?_ | refine fork_eq ?_ ?_ | refine fork_ne ?_ ?_ | refine fork_intro ?_ ?_) <;> intro h <;> try (exfalso; first | omega | exact h rfl | (revert h; decide) | (cases h; done)))
   | ((with_reducible show False); omega)
   | ((first | (with_reducible first | refine r_exit ?_ | refine r_skip ?_ | refine r_cond ?_ | refine r_region ?_ | refine r_ret ?_ | show VX _ _ _ _ _ _ _ | show vstep _ _ _ _ _ | show vskip _ _ _ | show withV _ _) | ((with_reducible show endA _ _ _ _ _ _ _); simp -implicitDefEqProofs only [endA]) | (with_reducible first | refine pick_viewG default (by first | omega | (simp only [LN, hw]; omega)) (by first | omega | (simp only [LN, hw]; omega)) ?_ | refine pick_own default (by first | omega | (simp only [LN, hw]; omega)) ?_ | refine And.intro (by first | decide | omega | assumption | (simp only [LN, hw]; omega)) ?_) | ((with_reducible apply callK_pure); (first | exact c6 | exact k7 | fail)) | ((with_reducible apply callF_lend); (first | exact c6 | exact k7 | fail); rfl) | ((with_reducible apply callF_go); (first | exact c6 | exact k7 | fail)) | (with_reducible first | apply callK_lent | apply callF_lent | apply hideP_own) | ((with_reducible apply callA_go); (first | exact k18 | exact k20 | exact k17 | exact k21 | fail)) | ((with_reducible show pickE _ _ _); first | refine pickE_intro _ ⟨by omega, by rfl⟩ ?_ | refine pickE_intro _ (by rfl) ?_) | fail); try simp -dsimp -implicitDefEqProofs (maxSteps := 1000000) (disch := first | omega | (simp only [LN, hw]; omega)) only [go_sem, hw])
   | fail)
  refine r_loopA (α := Nat) [3, 5, 6, 7, 8, 10, 66] (fun i b => [(67, aI i)]) (fun i b => []) (fun i => []) (fun i => i ≤ S.length) (fun i => S.length - i) (0) ?h0_3 ?hs0_3 ?I_3 ?hI_3 ?round_3
  case hI_3 => intro x; (simp -dsimp -implicitDefEqProofs (maxSteps := 1000000) (disch := first | omega | (simp only [LN]; omega)) only [go_sem]) <;> exact rfl
  case hs0_3 => refine wk_auto ?_; (simp -dsimp -implicitDefEqProofs (maxSteps := 1000000) (disch := first | omega | (simp only [LN]; omega)) only [go_sem]) <;> (try omega)
  case h0_3 => exact Nat.zero_le _
  case round_3 =>
   intro i hi0
   by_cases hi : i < S.length
   ·obtain ⟨hl1, k12⟩ := same i hi
    have k13 := c13 (S.getD i default)
    repeat' (first
     | (with_reducible first | refine r_seq ?_ | refine r_block ?_ | refine fork_not ?_ | refine fork_and ?_ | refine fork_or ?_ | refine chk_ok (by kernel_rfl) ?_)
     | ((with_reducible first | refine fork_dec ?_ ?_ | refine fork_eq ?_ ?_ | refine fork_ne ?_ ?_ | refine fork_intro ?_ ?_) <;> intro h <;> try (exfalso; first | omega | exact h rfl | (revert h; decide) | (cases h; done)))
     | ((with_reducible show False); omega)
     | ((first | (with_reducible first | refine r_exit ?_ | refine r_skip ?_ | refine r_cond ?_ | refine r_region ?_ | refine r_ret ?_ | show VX _ _ _ _ _ _ _ | show vstep _ _ _ _ _ | show vskip _ _ _ | show withV _ _) | ((with_reducible show endA _ _ _ _ _ _ _); simp -implicitDefEqProofs only [endA]) | (with_reducible first | refine pick_viewG default (by first | omega | (simp only [LN, hw]; omega)) (by first | omega | (simp only [LN, hw]; omega)) ?_ | refine pick_own default (by first | omega | (simp only [LN, hw]; omega)) ?_ | refine And.intro (by first | decide | omega | assumption | (simp only [LN, hw]; omega)) ?_) | ((with_reducible apply callK_pure); (first | exact k12 | exact k13 (by omega) | fail)) | ((with_reducible apply callF_lend); (first | exact k12 | exact k13 (by omega) | fail); rfl) | ((with_reducible apply callF_go); (first | exact k12 | exact k13 (by omega) | fail)) | ((with_reducible show pickE _ _ _); first | refine pickE_intro _ ⟨by omega, by rfl⟩ ?_ | refine pickE_intro _ (by rfl) ?_) | fail); try simp -dsimp -implicitDefEqProofs (maxSteps := 1000000) (disch := first | omega | (simp only [LN, hw]; omega)) only [go_sem, hw])
     | fail)
    all_goals first | omega | (refine loopQ_next (i + 1) ?_ ?_ ?_; (omega); (show _ < _; omega); (simp -dsimp -implicitDefEqProofs (maxSteps := 1000000) (disch := first | omega | (simp only [LN]; omega)) only [go_sem]; try trivial))
   ·repeat' (first
     | (with_reducible first | refine r_seq ?_ | refine r_block ?_ | refine fork_not ?_ | refine fork_and ?_ | refine fork_or ?_ | refine chk_ok (by kernel_rfl) ?_)
     | ((with_reducible first | refine fork_dec ?_ ?_ | refine fork_eq ?_ ?_ | refine fork_ne ?_ ?_ | refine fork_intro ?_ ?_) <;> intro h <;> try (exfalso; first | omega | exact h rfl | (revert h; decide) | (cases h; done)))
     | ((with_reducible show False); omega)
     | ((first | (with_reducible first | refine r_exit ?_ | refine r_skip ?_ | refine r_cond ?_ | refine r_region ?_ | refine r_ret ?_ | show VX _ _ _ _ _ _ _ | show vstep _ _ _ _ _ | show vskip _ _ _ | show withV _ _) | ((with_reducible show endA _ _ _ _ _ _ _); simp -implicitDefEqProofs only [endA]) | (with_reducible first | refine pick_viewG default (by first | omega | (simp only [LN, hw]; omega)) (by first | omega | (simp only [LN, hw]; omega)) ?_ | refine pick_own default (by first | omega | (simp only [LN, hw]; omega)) ?_ | refine And.intro (by first | decide | omega | assumption | (simp only [LN, hw]; omega)) ?_) | ((with_reducible apply callK_pure); (exact k11)) | ((with_reducible apply callF_lend); (exact k11); rfl) | ((with_reducible apply callF_go); (exact k11)) | ((with_reducible show pickE _ _ _); first | refine pickE_intro _ ⟨by omega, by rfl⟩ ?_ | refine pickE_intro _ (by rfl) ?_) | fail); try simp -dsimp -implicitDefEqProofs (maxSteps := 1000000) (disch := first | omega | (simp only [LN, hw]; omega)) only [go_sem, hw])
     | fail)
    all_goals first | omega | rfl
 | true =>
  rw [hkn] at k11
  have hop := knows_rng hkn
  have hb1 : Hi.busyM (Hi.crashH x).cl (Hi.crashH x).era 0 = false := by
   rw [← hIc.b 0 (by decide) (by decide)]; rfl
  have k19 := Hi.c19 op key val old
  rw [show op % 256 = op by omega] at k19
  have kinv := Hi.a18o (Hi.crashH x) 0 op key val old (by decide) hop rfl (by omega) (by rw [e1]; omega)
  have k27 := Hi.c27o x.cl (Hi.crashH x).ev.length (Hi.crashH x).era 0 op key val old (by omega) (by omega) ⟨by decide, by decide, hop⟩ hb1
  rw [show (x.ev.length : Int) + 1 = ((Hi.crashH x).ev.length : Int) by rw [e3]; rfl, ← e2] at k29
  have hz : OpsOk k (x.cl ++ [Hi.newC 0 op key val old (Hi.crashH x).ev.length (Hi.crashH x).era]) := fun i hi => by
   rw [List.length_append, List.length_cons, List.length_nil] at hi
   rcases Nat.lt_or_ge i x.cl.length with hl | hl
   ·rw [Hi.gA_lt _ _ _ _ hl]; exact h2 i hl
   ·obtain rfl : i = x.cl.length := by omega
    rw [Hi.gA_eq]; exact ⟨hkn, ho⟩
  have hzl : (x.cl ++ [Hi.newC 0 op key val old (Hi.crashH x).ev.length (Hi.crashH x).era]).length ≤ 6 := by rw [List.length_append]; simp; omega
  have k22 := o20g k (Hi.invH (Hi.crashH x) 0 op key val old) (hex _ hz hzl) (fun i hi => (hz i hi).2)
  have k10 := r10 k ((Hi.crashH x).ev.length + 1) (Hi.crashH x).era _ h3.1 hz hzl
  rw [← pre_fin h3.1 hz (by omega)] at k10
  have hTl := preL_len (k := k) (show (x.cl ++ [Hi.newC 0 op key val old (Hi.crashH x).ev.length (Hi.crashH x).era]).length ≤ 10 by omega)
  have hTn := fun (f : LP) (hf : f ∈ preL k (x.cl ++ [Hi.newC 0 op key val old (Hi.crashH x).ev.length (Hi.crashH x).era])) => pre_len h3.1 (fun i hi => (hz i hi).2) (by omega) hf
  have sub : ∀ X, X ∈ S → X ∈ preL k (x.cl ++ [Hi.newC 0 op key val old (Hi.crashH x).ev.length (Hi.crashH x).era]) := fun X hX =>
   pre_more h3.1 hro (fun i hi => (hz i hi).2) (by omega) (by show (-1 : Int) < 0; decide) (by rw [hS]; exact hX)
  obtain ⟨T, hT⟩ : ∃ T, preL k (x.cl ++ [Hi.newC 0 op key val old (Hi.crashH x).ev.length (Hi.crashH x).era]) = T := ⟨_, rfl⟩
  rw [show preL k (Hi.invH (Hi.crashH x) 0 op key val old).cl = T from hT] at k22
  rw [hT] at k10 hTl hTn sub
  rw [hS] at k20
  rw [show preL k (Hi.crashH x).cl = S from hS] at k21
  have e4 : (Hi.crashH x).cl.length = x.cl.length := rfl
  generalize x.cl ++ [Hi.newC 0 op key val old (Hi.crashH x).ev.length (Hi.crashH x).era] = L' at *
  generalize Hi.invH (Hi.crashH x) 0 op key val old = z at *
  generalize Hi.crashH x = y at *
  repeat' (first
   | (with_reducible first | refine r_seq ?_ | refine r_block ?_ | refine fork_not ?_ | refine fork_and ?_ | refine fork_or ?_ | refine chk_ok (by kernel_rfl) ?_)
   | ((with_reducible first | refine fork_dec ?_ ?_ | refine fork_eq ?_ ?_ | refine fork_ne ?_ ?_ | refine fork_intro ?_ ?_) <;> intro h <;> try (exfalso; first | omega | exact h rfl | (revert h; decide) | (cases h; done)))
   | ((with_reducible show False); omega)
   | ((first | (with_reducible first | refine r_exit ?_ | refine r_skip ?_ | refine r_cond ?_ | refine r_region ?_ | refine r_ret ?_ | show VX _ _ _ _ _ _ _ | show vstep _ _ _ _ _ | show vskip _ _ _ | show withV _ _) | ((with_reducible show endA _ _ _ _ _ _ _); simp -implicitDefEqProofs only [endA]) | (with_reducible first | refine pick_viewG default (by first | omega | (simp only [LN, hw]; omega)) (by first | omega | (simp only [LN, hw]; omega)) ?_ | refine pick_own default (by first | omega | (simp only [LN, hw]; omega)) ?_ | refine And.intro (by first | decide | omega | assumption | (simp only [LN, hw]; omega)) ?_) | ((with_reducible apply callK_pure); (first | exact c6 | exact k7 | fail)) | ((with_reducible apply callF_lend); (first | exact c6 | exact k7 | fail); rfl) | ((with_reducible apply callF_go); (first | exact c6 | exact k7 | fail)) | (with_reducible first | apply callK_lent | apply callF_lent | apply hideP_own) | ((with_reducible apply callA_go); (first | exact k18 | exact k20 | exact k17 | exact k21 | fail)) | ((with_reducible show pickE _ _ _); first | refine pickE_intro _ ⟨by omega, by rfl⟩ ?_ | refine pickE_intro _ (by rfl) ?_) | fail); try simp -dsimp -implicitDefEqProofs (maxSteps := 1000000) (disch := first | omega | (simp only [LN, hw]; omega)) only [go_sem, hw])
   | fail)
  refine r_loopA (α := Nat) [3, 5, 6, 7, 8, 10, 66] (fun i b => [(67, aI i)]) (fun i b => []) (fun i => []) (fun i => i ≤ S.length) (fun i => S.length - i) (0) ?h0_4 ?hs0_4 ?I_4 ?hI_4 ?round_4
  case hI_4 => intro x; (simp -dsimp -implicitDefEqProofs (maxSteps := 1000000) (disch := first | omega | (simp only [LN]; omega)) only [go_sem]) <;> exact rfl
  case hs0_4 => refine wk_auto ?_; (simp -dsimp -implicitDefEqProofs (maxSteps := 1000000) (disch := first | omega | (simp only [LN]; omega)) only [go_sem]) <;> (try omega)
  case h0_4 => exact Nat.zero_le _
  case round_4 =>
   intro i hi0
   by_cases hi : i < S.length
   ·obtain ⟨hl1, k12⟩ := same i hi
    have k13 := c13 (S.getD i default)
    repeat' (first
     | (with_reducible first | refine r_seq ?_ | refine r_block ?_ | refine fork_not ?_ | refine fork_and ?_ | refine fork_or ?_ | refine chk_ok (by kernel_rfl) ?_)
     | ((with_reducible first | refine fork_dec ?_ ?_ | refine fork_eq ?_ ?_ | refine fork_ne ?_ ?_ | refine fork_intro ?_ ?_) <;> intro h <;> try (exfalso; first | omega | exact h rfl | (revert h; decide) | (cases h; done)))
     | ((with_reducible show False); omega)
     | ((first | (with_reducible first | refine r_exit ?_ | refine r_skip ?_ | refine r_cond ?_ | refine r_region ?_ | refine r_ret ?_ | show VX _ _ _ _ _ _ _ | show vstep _ _ _ _ _ | show vskip _ _ _ | show withV _ _) | ((with_reducible show endA _ _ _ _ _ _ _); simp -implicitDefEqProofs only [endA]) | (with_reducible first | refine pick_viewG default (by first | omega | (simp only [LN, hw]; omega)) (by first | omega | (simp only [LN, hw]; omega)) ?_ | refine pick_own default (by first | omega | (simp only [LN, hw]; omega)) ?_ | refine And.intro (by first | decide | omega | assumption | (simp only [LN, hw]; omega)) ?_) | ((with_reducible apply callK_pure); (first | exact k12 | exact k13 (by omega) | fail)) | ((with_reducible apply callF_lend); (first | exact k12 | exact k13 (by omega) | fail); rfl) | ((with_reducible apply callF_go); (first | exact k12 | exact k13 (by omega) | fail)) | ((with_reducible show pickE _ _ _); first | refine pickE_intro _ ⟨by omega, by rfl⟩ ?_ | refine pickE_intro _ (by rfl) ?_) | fail); try simp -dsimp -implicitDefEqProofs (maxSteps := 1000000) (disch := first | omega | (simp only [LN, hw]; omega)) only [go_sem, hw])
     | fail)
    all_goals first | omega | (refine loopQ_next (i + 1) ?_ ?_ ?_; (omega); (show _ < _; omega); (simp -dsimp -implicitDefEqProofs (maxSteps := 1000000) (disch := first | omega | (simp only [LN]; omega)) only [go_sem]; try trivial))
   ·repeat' (first
     | (with_reducible first | refine r_seq ?_ | refine r_block ?_ | refine fork_not ?_ | refine fork_and ?_ | refine fork_or ?_ | refine chk_ok (by kernel_rfl) ?_)
     | ((with_reducible first | refine fork_dec ?_ ?_ | refine fork_eq ?_ ?_ | refine fork_ne ?_ ?_ | refine fork_intro ?_ ?_) <;> intro h <;> try (exfalso; first | omega | exact h rfl | (revert h; decide) | (cases h; done)))
     | ((with_reducible show False); omega)
     | ((first | (with_reducible first | refine r_exit ?_ | refine r_skip ?_ | refine r_cond ?_ | refine r_region ?_ | refine r_ret ?_ | show VX _ _ _ _ _ _ _ | show vstep _ _ _ _ _ | show vskip _ _ _ | show withV _ _) | ((with_reducible show endA _ _ _ _ _ _ _); simp -implicitDefEqProofs only [endA]) | (with_reducible first | refine pick_viewG default (by first | omega | (simp only [LN, hw]; omega)) (by first | omega | (simp only [LN, hw]; omega)) ?_ | refine pick_own default (by first | omega | (simp only [LN, hw]; omega)) ?_ | refine And.intro (by first | decide | omega | assumption | (simp only [LN, hw]; omega)) ?_) | ((with_reducible apply callK_pure); (first | exact k11 | exact k29 | exact k27 | exact k19 | fail)) | ((with_reducible apply callF_lend); (first | exact k11 | exact k29 | exact k27 | exact k19 | fail); rfl) | ((with_reducible apply callF_go); (first | exact k11 | exact k29 | exact k27 | exact k19 | fail)) | (with_reducible first | apply callK_lent | apply callF_lent | apply hideP_own) | ((with_reducible apply callA_go); (first | exact kinv | exact k22 | fail)) | ((with_reducible show pickE _ _ _); first | refine pickE_intro _ ⟨by omega, by rfl⟩ ?_ | refine pickE_intro _ (by rfl) ?_) | fail); try simp -dsimp -implicitDefEqProofs (maxSteps := 1000000) (disch := first | omega | (simp only [LN, hw]; omega)) only [go_sem, hw])
     | fail)
    all_goals try omega
    refine r_loopA (α := Nat) [7, 13, 15, 115, 116] (fun j b => [(117, aI j)]) (fun j b => []) (fun j => []) (fun j => j ≤ S.length) (fun j => S.length - j) (0) ?h0_5 ?hs0_5 ?I_5 ?hI_5 ?round_5
    case hI_5 => intro x; (simp -dsimp -implicitDefEqProofs (maxSteps := 1000000) (disch := first | omega | (simp only [LN]; omega)) only [go_sem]) <;> exact rfl
    case hs0_5 => refine wk_auto ?_; (simp -dsimp -implicitDefEqProofs (maxSteps := 1000000) (disch := first | omega | (simp only [LN]; omega)) only [go_sem]) <;> (try omega)
    case h0_5 => exact Nat.zero_le _
    case round_5 =>
     intro j hj0
     by_cases hj : j < S.length
     ·have hX := sub _ (mem_getD hj)
      obtain ⟨hl1, _⟩ := same j hj
      repeat' (first
       | (with_reducible first | refine r_seq ?_ | refine r_block ?_ | refine fork_not ?_ | refine fork_and ?_ | refine fork_or ?_ | refine chk_ok (by kernel_rfl) ?_)
       | ((with_reducible first | refine fork_dec ?_ ?_ | refine fork_eq ?_ ?_ | refine fork_ne ?_ ?_ | refine fork_intro ?_ ?_) <;> intro h <;> try (exfalso; first | omega | exact h rfl | (revert h; decide) | (cases h; done)))
       | ((with_reducible show False); omega)
       | ((first | (with_reducible first | refine r_exit ?_ | refine r_skip ?_ | refine r_cond ?_ | refine r_region ?_ | refine r_ret ?_ | show VX _ _ _ _ _ _ _ | show vstep _ _ _ _ _ | show vskip _ _ _ | show withV _ _) | ((with_reducible show endA _ _ _ _ _ _ _); simp -implicitDefEqProofs only [endA]) | (with_reducible first | refine pick_viewG default (by first | omega | (simp only [LN, hw]; omega)) (by first | omega | (simp only [LN, hw]; omega)) ?_ | refine pick_own default (by first | omega | (simp only [LN, hw]; omega)) ?_ | refine And.intro (by first | decide | omega | assumption | (simp only [LN, hw]; omega)) ?_) | ((with_reducible show pickE _ _ _); first | refine pickE_intro _ ⟨by omega, by rfl⟩ ?_ | refine pickE_intro _ (by rfl) ?_) | fail); try simp -dsimp -implicitDefEqProofs (maxSteps := 1000000) (disch := first | omega | (simp only [LN, hw]; omega)) only [go_sem, hw])
       | fail)
      all_goals try omega
      refine r_loopA (α := Nat) [7, 13, 15, 18, 115, 116, 117, 121, 122] (fun m b => [(19, .p (.v (.bool (decide (S.getD j default ∈ T.take m))))), (123, aI m)]) (fun m b => []) (fun m => []) (fun m => m ≤ T.length) (fun m => T.length - m) (0) ?h0_6 ?hs0_6 ?I_6 ?hI_6 ?round_6
      case hI_6 => intro x; (simp -dsimp -implicitDefEqProofs (maxSteps := 1000000) (disch := first | omega | (simp only [LN]; omega)) only [go_sem]) <;> exact rfl
      case hs0_6 => refine wk_auto ?_; (simp -dsimp -implicitDefEqProofs (maxSteps := 1000000) (disch := first | omega | (simp only [LN, List.take_zero, List.not_mem_nil, decide_false]; omega)) only [go_sem, List.take_zero, List.not_mem_nil, decide_false]) <;> (try omega)
      case h0_6 => exact Nat.zero_le _
      case round_6 =>
       intro m hm0
       by_cases hm : m < T.length
       ·have hst := take_mem (X := S.getD j default) hm
        have hl2 := hTn _ (mem_getD hm)
        have k12 := r12 (S.getD j default) (T.getD m default)
        have k13 := c13 (S.getD j default) (by omega)
        have k14 := c13 (T.getD m default) (by omega)
        by_cases h0 : S.getD j default ∈ T.take m
        ·have hd1 : decide (S.getD j default ∈ T.take m) = true := decide_eq_true h0
         have hd2 : decide (S.getD j default ∈ T.take (m + 1)) = true := decide_eq_true (hst.2 (.inl h0))
         rw [hd1]
         repeat' (first
          | (with_reducible first | refine r_seq ?_ | refine r_block ?_ | refine fork_not ?_ | refine fork_and ?_ | refine fork_or ?_ | refine chk_ok (by kernel_rfl) ?_)
          | ((with_reducible first | refine fork_dec ?_ ?_ | refine fork_eq ?_ ?_ | refine fork_ne ?_ ?_ | refine fork_intro ?_ ?_) <;> intro h <;> try (exfalso; first | omega | exact h rfl | (revert h; decide) | (cases h; done)))
          | ((with_reducible show False); omega)
          | ((first | (with_reducible first | refine r_exit ?_ | refine r_skip ?_ | refine r_cond ?_ | refine r_region ?_ | refine r_ret ?_ | show VX _ _ _ _ _ _ _ | show vstep _ _ _ _ _ | show vskip _ _ _ | show withV _ _) | ((with_reducible show endA _ _ _ _ _ _ _); simp -implicitDefEqProofs only [endA]) | (with_reducible first | refine pick_viewG default (by first | omega | (simp only [LN, hw]; omega)) (by first | omega | (simp only [LN, hw]; omega)) ?_ | refine pick_own default (by first | omega | (simp only [LN, hw]; omega)) ?_ | refine And.intro (by first | decide | omega | assumption | (simp only [LN, hw]; omega)) ?_) | ((with_reducible apply callK_pure); (first | exact k12 | exact k13 | exact k14 | fail)) | ((with_reducible apply callF_lend); (first | exact k12 | exact k13 | exact k14 | fail); rfl) | ((with_reducible apply callF_go); (first | exact k12 | exact k13 | exact k14 | fail)) | ((with_reducible show pickE _ _ _); first | refine pickE_intro _ ⟨by omega, by rfl⟩ ?_ | refine pickE_intro _ (by rfl) ?_) | fail); try simp -dsimp -implicitDefEqProofs (maxSteps := 1000000) (disch := first | omega | (simp only [LN, hw]; omega)) only [go_sem, hw])
          | fail)
         all_goals first | omega | (refine loopQ_next (m + 1) ?_ ?_ ?_; (omega); (show _ < _; omega); (simp -dsimp -implicitDefEqProofs (maxSteps := 1000000) (disch := first | omega | (simp only [LN, hd2]; omega)) only [go_sem, hd2]; try trivial))
        ·have hd1 : decide (S.getD j default ∈ T.take m) = false := decide_eq_false h0
         have hd2 : decide (S.getD j default ∈ T.take (m + 1)) = decide (S.getD j default = T.getD m default) := by
          by_cases e : S.getD j default = T.getD m default
          ·rw [decide_eq_true e]; exact decide_eq_true (hst.2 (.inr e))
          ·rw [decide_eq_false e]; exact decide_eq_false fun h => (hst.1 h).elim h0 e
         rw [hd1]
         repeat' (first
          | (with_reducible first | refine r_seq ?_ | refine r_block ?_ | refine fork_not ?_ | refine fork_and ?_ | refine fork_or ?_ | refine chk_ok (by kernel_rfl) ?_)
          | ((with_reducible first | refine fork_dec ?_ ?_ | refine fork_eq ?_ ?_ | refine fork_ne ?_ ?_ | refine fork_intro ?_ ?_) <;> intro h <;> try (exfalso; first | omega | exact h rfl | (revert h; decide) | (cases h; done)))
          | ((with_reducible show False); omega)
          | ((first | (with_reducible first | refine r_exit ?_ | refine r_skip ?_ | refine r_cond ?_ | refine r_region ?_ | refine r_ret ?_ | show VX _ _ _ _ _ _ _ | show vstep _ _ _ _ _ | show vskip _ _ _ | show withV _ _) | ((with_reducible show endA _ _ _ _ _ _ _); simp -implicitDefEqProofs only [endA]) | (with_reducible first | refine pick_viewG default (by first | omega | (simp only [LN, hw]; omega)) (by first | omega | (simp only [LN, hw]; omega)) ?_ | refine pick_own default (by first | omega | (simp only [LN, hw]; omega)) ?_ | refine And.intro (by first | decide | omega | assumption | (simp only [LN, hw]; omega)) ?_) | ((with_reducible apply callK_pure); (first | exact k12 | exact k13 | exact k14 | fail)) | ((with_reducible apply callF_lend); (first | exact k12 | exact k13 | exact k14 | fail); rfl) | ((with_reducible apply callF_go); (first | exact k12 | exact k13 | exact k14 | fail)) | ((with_reducible show pickE _ _ _); first | refine pickE_intro _ ⟨by omega, by rfl⟩ ?_ | refine pickE_intro _ (by rfl) ?_) | fail); try simp -dsimp -implicitDefEqProofs (maxSteps := 1000000) (disch := first | omega | (simp only [LN, hw]; omega)) only [go_sem, hw])
          | fail)
         all_goals first | omega | (refine loopQ_next (m + 1) ?_ ?_ ?_; (omega); (show _ < _; omega); (simp -dsimp -implicitDefEqProofs (maxSteps := 1000000) (disch := first | omega | (simp only [LN, hd2]; omega)) only [go_sem, hd2]; try trivial))
       ·have hd1 : decide (S.getD j default ∈ T.take m) = true := decide_eq_true (by rw [show m = T.length by omega, List.take_length]; exact hX)
        rw [hd1]
        repeat' (first
         | (with_reducible first | refine r_seq ?_ | refine r_block ?_ | refine fork_not ?_ | refine fork_and ?_ | refine fork_or ?_ | refine chk_ok (by kernel_rfl) ?_)
         | ((with_reducible first | refine fork_dec ?_ ?_ | refine fork_eq ?_ ?_ | refine fork_ne ?_ ?_ | refine fork_intro ?_ ?_) <;> intro h <;> try (exfalso; first | omega | exact h rfl | (revert h; decide) | (cases h; done)))
         | ((with_reducible show False); omega)
         | ((first | (with_reducible first | refine r_exit ?_ | refine r_skip ?_ | refine r_cond ?_ | refine r_region ?_ | refine r_ret ?_ | show VX _ _ _ _ _ _ _ | show vstep _ _ _ _ _ | show vskip _ _ _ | show withV _ _) | ((with_reducible show endA _ _ _ _ _ _ _); simp -implicitDefEqProofs only [endA]) | (with_reducible first | refine pick_viewG default (by first | omega | (simp only [LN, hw]; omega)) (by first | omega | (simp only [LN, hw]; omega)) ?_ | refine pick_own default (by first | omega | (simp only [LN, hw]; omega)) ?_ | refine And.intro (by first | decide | omega | assumption | (simp only [LN, hw]; omega)) ?_) | ((with_reducible show pickE _ _ _); first | refine pickE_intro _ ⟨by omega, by rfl⟩ ?_ | refine pickE_intro _ (by rfl) ?_) | fail); try simp -dsimp -implicitDefEqProofs (maxSteps := 1000000) (disch := first | omega | (simp only [LN, hw]; omega)) only [go_sem, hw])
         | fail)
        all_goals first | omega | (refine loopQ_next (j + 1) ?_ ?_ ?_; (omega); (show _ < _; omega); (simp -dsimp -implicitDefEqProofs (maxSteps := 1000000) (disch := first | omega | (simp only [LN]; omega)) only [go_sem]; try trivial))
     ·repeat' (first
       | (with_reducible first | refine r_seq ?_ | refine r_block ?_ | refine fork_not ?_ | refine fork_and ?_ | refine fork_or ?_ | refine chk_ok (by kernel_rfl) ?_)
       | ((with_reducible first | refine fork_dec ?_ ?_ | refine fork_eq ?_ ?_ | refine fork_ne ?_ ?_ | refine fork_intro ?_ ?_) <;> intro h <;> try (exfalso; first | omega | exact h rfl | (revert h; decide) | (cases h; done)))
       | ((with_reducible show False); omega)
       | ((first | (with_reducible first | refine r_exit ?_ | refine r_skip ?_ | refine r_cond ?_ | refine r_region ?_ | refine r_ret ?_ | show VX _ _ _ _ _ _ _ | show vstep _ _ _ _ _ | show vskip _ _ _ | show withV _ _) | ((with_reducible show endA _ _ _ _ _ _ _); simp -implicitDefEqProofs only [endA]) | (with_reducible first | refine pick_viewG default (by first | omega | (simp only [LN, hw]; omega)) (by first | omega | (simp only [LN, hw]; omega)) ?_ | refine pick_own default (by first | omega | (simp only [LN, hw]; omega)) ?_ | refine And.intro (by first | decide | omega | assumption | (simp only [LN, hw]; omega)) ?_) | ((with_reducible apply callK_pure); (exact k10)) | ((with_reducible apply callF_lend); (exact k10); rfl) | ((with_reducible apply callF_go); (exact k10)) | ((with_reducible show pickE _ _ _); first | refine pickE_intro _ ⟨by omega, by rfl⟩ ?_ | refine pickE_intro _ (by rfl) ?_) | fail); try simp -dsimp -implicitDefEqProofs (maxSteps := 1000000) (disch := first | omega | (simp only [LN, hw]; omega)) only [go_sem, hw])
       | fail)
      all_goals first | omega | rfl | (simp; done)
end Go.Proofs.YtpcjeaaplidmaaaGreatDoor