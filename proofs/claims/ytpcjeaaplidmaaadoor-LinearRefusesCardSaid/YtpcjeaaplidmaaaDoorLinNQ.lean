/- Contracts of functions of this program, and the plain facts that they rest on. No conditions. -/
import Derived.Test.YtpcjeaaplidmaaaDoorLinIQ
set_option linter.unusedSimpArgs false
set_option linter.unusedVariables false
namespace Go.Proofs.YtpcjeaaplidmaaaDoor
open Go Go.Ab
attribute [local irreducible] callK callF loopQ vstep vskip pickE hideP
open Go.RowKit
set_option maxRecDepth 100000
attribute [local go_sem] Hi.eC Hi.hc Hi.hP sV eM eN pcells_L
theorem cmpP_lt (p q : Int × Int) : cmpP p q < 0 ↔ p.1 < q.1 ∨ p.1 = q.1 ∧ p.2 < q.2 := by
 unfold cmpP orM Sp.cmpM
 repeat' split
 all_goals first | omega | (constructor <;> intro h <;> omega)
theorem cmpP_neg (p q : Int × Int) : cmpP q p = - cmpP p q := by
 unfold cmpP orM Sp.cmpM
 repeat' split
 all_goals omega
theorem cmpP_0 (p q : Int × Int) : cmpP p q = 0 ↔ p = q := by
 constructor
 ·intro h
  have h1 := cmpP_lt p q
  have h2 := cmpP_lt q p
  rw [cmpP_neg, h] at h2
  rw [h] at h1
  obtain ⟨a, b⟩ := p
  obtain ⟨c, d⟩ := q
  simp only at h1 h2
  have : a = c ∧ b = d := by omega
  rw [this.1, this.2]
 ·rintro rfl
  unfold cmpP orM Sp.cmpM; simp
theorem cmpL_neg : ∀ a b : LP, cmpL b a = - cmpL a b
 | [], [] => rfl
 | [], _ :: _ => rfl
 | _ :: _, [] => rfl
 | p :: a, q :: b => by
  rw [cmpL, cmpL, cmpP_neg p q]
  by_cases h : cmpP p q = 0
  ·rw [if_neg (by omega), if_neg (by omega), cmpL_neg a b]
  ·rw [if_pos (by omega), if_pos h]
theorem cmpL_0 : ∀ a b : LP, cmpL a b = 0 → a = b
 | [], [], _ => rfl
 | [], _ :: _, h => by rw [cmpL] at h; omega
 | _ :: _, [], h => by rw [cmpL] at h; omega
 | p :: a, q :: b, h => by
  rw [cmpL] at h
  by_cases h1 : cmpP p q = 0
  ·rw [if_neg (by omega)] at h
   rw [(cmpP_0 p q).1 h1, cmpL_0 a b h]
  ·rw [if_pos h1] at h; omega
theorem cmpL_tr : ∀ a b c : LP, cmpL a b < 0 → cmpL b c < 0 → cmpL a c < 0
 | [], [], _, h, _ => by rw [cmpL] at h; omega
 | [], _ :: _, [], _, h => by rw [cmpL] at h; omega
 | [], _ :: _, _ :: _, _, _ => by rw [cmpL]; omega
 | _ :: _, [], _, h, _ => by rw [cmpL] at h; omega
 | _ :: _, _ :: _, [], _, h => by rw [cmpL] at h; omega
 | p :: a, q :: b, r :: c, h1, h2 => by
  rw [cmpL] at h1 h2 ⊢
  by_cases e1 : cmpP p q = 0
  ·rw [if_neg (by omega)] at h1
   obtain rfl := (cmpP_0 p q).1 e1
   by_cases e2 : cmpP p r = 0
   ·rw [if_neg (by omega)] at h2
    rw [if_neg (by omega)]
    exact cmpL_tr a b c h1 h2
   ·rw [if_pos e2] at h2
    rw [if_pos e2]; exact h2
  ·rw [if_pos e1] at h1
   by_cases e2 : cmpP q r = 0
   ·obtain rfl := (cmpP_0 q r).1 e2
    rw [if_pos e1]; exact h1
   ·rw [if_pos e2] at h2
    have k1 := cmpP_lt p q
    have k2 := cmpP_lt q r
    have k3 := cmpP_lt p r
    have : cmpP p r < 0 := by omega
    rw [if_pos (by omega)]; exact this
theorem swoL : Sort.SWO (fun a b : LP => decide (cmpL a b < 0)) where
 irrefl x := by rw [cmpL_self]; rfl
 trans x y z h1 h2 := by
  have h1 := of_decide_eq_true h1
  have h2 := of_decide_eq_true h2
  exact decide_eq_true (cmpL_tr _ _ _ h1 h2)
 ntrans x y z h1 h2 := by
  have h1 := of_decide_eq_false h1
  have h2 := of_decide_eq_false h2
  refine decide_eq_false fun h => ?_
  by_cases e1 : cmpL x y = 0
  ·rw [cmpL_0 _ _ e1] at h; exact h2 h
  ·by_cases e2 : cmpL y z = 0
   ·rw [← cmpL_0 _ _ e2] at h; exact h1 h
   ·have n1 := cmpL_neg x y
    have n2 := cmpL_neg y z
    have n3 := cmpL_neg x z
    have := cmpL_tr z y x (by omega) (by omega)
    omega
def leL (a b : LP) : Prop := ¬ cmpL b a < 0
theorem leL_anti {a b : LP} (h : leL a b) (k : leL b a) : a = b := by
 unfold leL at h k
 have := cmpL_neg a b
 exact cmpL_0 a b (by omega)
theorem uniL : ∀ l m : List LP, l.Perm m → l.Pairwise leL → m.Pairwise leL → l = m
 | [], m, h, _, _ => h.nil_eq
 | a :: l, [], h, _, _ => by have := h.length_eq; simp at this
 | a :: l, b :: m, h, h1, h2 => by
  have ha : a ∈ b :: m := h.mem_iff.1 List.mem_cons_self
  have hb : b ∈ a :: l := h.mem_iff.2 List.mem_cons_self
  rw [List.pairwise_cons] at h1 h2
  have : a = b := by
   rcases List.mem_cons.1 ha with e | e
   ·exact e
   ·rcases List.mem_cons.1 hb with e' | e'
    ·exact e'.symm
    ·exact leL_anti (h1.1 _ e') (h2.1 _ e)
  subst this
  rw [uniL l m (List.Perm.cons_inv h) h1.2 h2.2]
def srtL (A : List LP) : List LP := A.mergeSort fun a b => decide (cmpL a b ≤ 0)
theorem srtL_perm (A : List LP) : (srtL A).Perm A := List.mergeSort_perm A _
theorem srtL_pw (A : List LP) : (srtL A).Pairwise leL := by
 have h := List.pairwise_mergeSort (le := fun a b : LP => decide (cmpL a b ≤ 0)) (fun a b c h1 h2 => by
  have h1 := of_decide_eq_true h1
  have h2 := of_decide_eq_true h2
  refine decide_eq_true ?_
  by_cases e1 : cmpL a b = 0
  ·rw [cmpL_0 _ _ e1]; exact h2
  ·by_cases e2 : cmpL b c = 0
   ·rw [← cmpL_0 _ _ e2]; exact h1
   ·have := cmpL_tr a b c (by omega) (by omega); omega) (fun a b => by
  have := cmpL_neg a b
  by_cases h : cmpL a b ≤ 0
  ·simp [h]
  ·have : cmpL b a ≤ 0 := by omega
   simp [this]) A
 refine h.imp fun h => ?_
 rename_i a b
 have h := of_decide_eq_true h
 unfold leL
 have := cmpL_neg a b
 omega
theorem srtL_uni {A l : List LP} (h : l.Perm A) (k : l.Pairwise fun a b => ¬ cmpL b a < 0) : l = srtL A := uniL l (srtL A) (h.trans (srtL_perm A).symm) k (srtL_pw A)
def dd : List LP → List LP
 | [] => []
 | [x] => [x]
 | x :: y :: r => if x = y then dd (y :: r) else x :: dd (y :: r)
theorem dd_len : ∀ l : List LP, (dd l).length ≤ l.length
 | [] => Nat.le_refl _
 | [x] => Nat.le_refl _
 | x :: y :: r => by
  have := dd_len (y :: r)
  rw [dd]
  split
  ·simp only [List.length_cons] at this ⊢; omega
  ·simp only [List.length_cons] at this ⊢; omega
theorem dd_1 (x : LP) : dd [x] = [x] := by simp only [dd]
theorem dd_2 (x y : LP) (r : List LP) : dd (x :: y :: r) = if x = y then dd (y :: r) else x :: dd (y :: r) := by rw [dd]
theorem dd_snoc (z : LP) : ∀ (l : List LP) (h : l ≠ []), dd (l ++ [z]) = if l.getLast h = z then dd l else dd l ++ [z]
 | [x], h => by
  show dd [x, z] = if x = z then dd [x] else dd [x] ++ [z]
  rw [dd_2, dd_1, dd_1]
  by_cases e : x = z
  ·rw [if_pos e, if_pos e, e]
  ·rw [if_neg e, if_neg e]; rfl
 | x :: y :: r, h => by
  have ih := dd_snoc z (y :: r) (List.cons_ne_nil _ _)
  show dd (x :: y :: (r ++ [z])) = _
  rw [dd_2, show y :: (r ++ [z]) = (y :: r) ++ [z] from rfl, ih, List.getLast_cons (List.cons_ne_nil _ _), dd_2]
  by_cases e : (y :: r).getLast (List.cons_ne_nil _ _) = z
  ·rw [if_pos e, if_pos e]
  ·rw [if_neg e, if_neg e]
   split
   ·rfl
   ·rfl
theorem dd_take {A : List LP} {i : Nat} (h0 : 0 < i) (hi : i < A.length) : dd (A.take (i + 1)) = if A.getD (i - 1) default = A.getD i default then dd (A.take i) else dd (A.take i) ++ [A.getD i default] := by
 have hne : A.take i ≠ [] := fun e => by
  have := congrArg List.length e
  rw [List.length_take, List.length_nil] at this
  omega
 have e1 : A.take (i + 1) = A.take i ++ [A.getD i default] := by
  rw [List.take_add_one, List.getD_eq_getElem?_getD, List.getElem?_eq_getElem hi]; rfl
 have e2 : (A.take i).getLast hne = A.getD (i - 1) default := by
  rw [List.getLast_eq_getElem, List.getD_eq_getElem?_getD, List.getElem?_eq_getElem (by omega)]
  simp [List.getElem_take, Nat.min_eq_left (Nat.le_of_lt hi)]
 rw [e1, dd_snoc _ _ hne, e2]
theorem set_eL (B : List LP) (k : Nat) (x : LP) : (B.map eL).set k (.view 2 (x.map Sp.eP)) = (B.set k x).map eL := by rw [List.map_set]; rfl
theorem getD_set_ne {B : List LP} {j k : Nat} {x : LP} (h : k ≠ j) : (B.set k x).getD j default = B.getD j default := by
 rw [List.getD_eq_getElem?_getD, List.getD_eq_getElem?_getD, List.getElem?_set_ne h]
theorem take_set {B : List LP} {k : Nat} {x : LP} (h : k < B.length) : (B.set k x).take (k + 1) = B.take k ++ [x] := by
 rw [List.take_add_one, List.getElem?_set_self h, List.take_set_of_le (Nat.le_refl _)]; rfl
theorem take_clear {A B : List LP} {k : Nat} (h1 : k ≤ B.length) (h2 : B.length = A.length) (h : B.take k = dd A) :
  (B.take k).map eL ++ (List.replicate (A.length - k) (PV.v (.slice none 0 0)) ++ (B.drop (k + (A.length - k))).map eL) = (dd A).map eL ++ List.replicate (A.length - k) (PV.v (.slice none 0 0)) := by
 rw [h, List.drop_of_length_le (by omega), List.map_nil, List.append_nil]
theorem dd_nil {A : List LP} (h : A.length < 2) : dd A = A := by
 match A, h with
 | [], _ => rfl
 | [x], _ => rfl
 | _ :: _ :: _, h => simp at h; omega
theorem dd_same {A : List LP} (h : dd A = A) : (dd A).map eL ++ List.replicate (A.length - (dd A).length) (PV.v (.slice none 0 0)) = A.map eL := by
 rw [h, Nat.sub_self]; simp
set_option maxRecDepth 100000 in
set_option maxHeartbeats 4000000 in
theorem a39g (A : List LP) (hA : A.length ≤ 100000000000) : ACalls Tryd.prog 39 [.sl 0 1 0 A.length, .p (.fn 40 [])] [.arr 1 (A.map eL)] (.sl 0 1 0 (dd A).length) [.arr 1 ((dd A).map eL ++ List.replicate (A.length - (dd A).length) (.v (.slice none 0 0)))] := by
 refine acalls_of (E := E) (fn := Tryd.f39) 66 [.tmp 4] rfl rfl rfl rfl (by decide) rfl rfl ?_
 by_cases h2 : A.length < 2
 ·rw [dd_same (dd_nil h2), dd_nil h2]
  repeat' (first
   | (with_reducible first | refine r_seq ?_ | refine r_block ?_ | refine fork_not ?_ | refine fork_and ?_ | refine fork_or ?_ | refine chk_ok (by kernel_rfl) ?_)
   | ((with_reducible first | refine fork_dec ?_ ?_ | refine fork_eq ?_ ?_ | refine fork_ne ?_ ?_ | refine fork_intro ?_ ?_) <;> intro h <;> try (exfalso; first | omega | exact h rfl | (revert h; decide) | (cases h; done)))
   | ((with_reducible show False); omega)
   | ((first | (with_reducible first | refine r_exit ?_ | refine r_skip ?_ | refine r_cond ?_ | refine r_region ?_ | refine r_ret ?_ | show VX _ _ _ _ _ _ _ | show vstep _ _ _ _ _ | show vskip _ _ _ | show withV _ _) | ((with_reducible show endA _ _ _ _ _ _ _); simp -implicitDefEqProofs only [endA]) | (with_reducible first | refine pick_viewG default (by first | omega | (simp only [LN]; omega)) (by first | omega | (simp only [LN]; omega)) ?_ | refine pick_own default (by first | omega | (simp only [LN]; omega)) ?_ | refine And.intro (by first | decide | omega | assumption | (simp only [LN]; omega)) ?_) | ((with_reducible show pickE _ _ _); first | refine pickE_intro _ ⟨by omega, by rfl⟩ ?_ | refine pickE_intro _ (by rfl) ?_) | fail); try simp -dsimp -implicitDefEqProofs (maxSteps := 1000000) (disch := first | omega | (simp only [LN]; omega)) only [go_sem])
   | fail)
  all_goals first | (exact ⟨rfl, .inl rfl⟩) | omega | rfl
 ·repeat' (first
   | (with_reducible first | refine r_seq ?_ | refine r_block ?_ | refine fork_not ?_ | refine fork_and ?_ | refine fork_or ?_ | refine chk_ok (by kernel_rfl) ?_)
   | ((with_reducible first | refine fork_dec ?_ ?_ | refine fork_eq ?_ ?_ | refine fork_ne ?_ ?_ | refine fork_intro ?_ ?_) <;> intro h <;> try (exfalso; first | omega | exact h rfl | (revert h; decide) | (cases h; done)))
   | ((with_reducible show False); omega)
   | ((first | (with_reducible first | refine r_exit ?_ | refine r_skip ?_ | refine r_cond ?_ | refine r_region ?_ | refine r_ret ?_ | show VX _ _ _ _ _ _ _ | show vstep _ _ _ _ _ | show vskip _ _ _ | show withV _ _) | ((with_reducible show endA _ _ _ _ _ _ _); simp -implicitDefEqProofs only [endA]) | (with_reducible first | refine pick_viewG default (by first | omega | (simp only [LN]; omega)) (by first | omega | (simp only [LN]; omega)) ?_ | refine pick_own default (by first | omega | (simp only [LN]; omega)) ?_ | refine And.intro (by first | decide | omega | assumption | (simp only [LN]; omega)) ?_) | ((with_reducible show pickE _ _ _); first | refine pickE_intro _ ⟨by omega, by rfl⟩ ?_ | refine pickE_intro _ (by rfl) ?_) | fail); try simp -dsimp -implicitDefEqProofs (maxSteps := 1000000) (disch := first | omega | (simp only [LN]; omega)) only [go_sem])
   | fail)
  refine r_loopA (α := Nat) [0, 1] (fun i b => [(5, aI i)]) (fun i b => []) (fun i => []) (fun i => 1 ≤ i ∧ i ≤ A.length ∧ dd (A.take i) = A.take i) (fun i => A.length - i) (1) ?h0_1 ?hs0_1 ?I_1 ?hI_1 ?round_1
  case hI_1 => intro x; (simp -dsimp -implicitDefEqProofs (maxSteps := 1000000) (disch := first | omega | (simp only [LN]; omega)) only [go_sem]) <;> exact rfl
  case hs0_1 => refine wk_auto ?_; (simp -dsimp -implicitDefEqProofs (maxSteps := 1000000) (disch := first | omega | (simp only [LN]; omega)) only [go_sem]) <;> (try omega)
  case h0_1 => exact ⟨Nat.le_refl _, by omega, by match A with | [] => rfl | x :: r => rfl⟩
  case round_1 =>
   rintro i ⟨h1, h3, h4⟩
   by_cases hi : i < A.length
   ·have k40 := c40 (A.getD i default) (A.getD (i - 1) default)
    have hs := dd_take (A := A) (i := i) h1 hi
    have e1 : ((i : Int) - 1).toNat = i - 1 := by omega
    by_cases he : A.getD i default = A.getD (i - 1) default
    ·rw [decide_eq_true he] at k40
     rw [if_pos he.symm, h4] at hs
     repeat' (first
      | (with_reducible first | refine r_seq ?_ | refine r_block ?_ | refine fork_not ?_ | refine fork_and ?_ | refine fork_or ?_ | refine chk_ok (by kernel_rfl) ?_)
      | ((with_reducible first | refine fork_dec ?_ ?_ | refine fork_eq ?_ ?_ | refine fork_ne ?_ ?_ | refine fork_intro ?_ ?_) <;> intro h <;> try (exfalso; first | omega | exact h rfl | (revert h; decide) | (cases h; done)))
      | ((with_reducible show False); omega)
      | ((first | (with_reducible first | refine r_exit ?_ | refine r_skip ?_ | refine r_cond ?_ | refine r_region ?_ | refine r_ret ?_ | show VX _ _ _ _ _ _ _ | show vstep _ _ _ _ _ | show vskip _ _ _ | show withV _ _) | ((with_reducible show endA _ _ _ _ _ _ _); simp -implicitDefEqProofs only [endA]) | (with_reducible first | refine pick_viewG default (by first | omega | (simp only [LN, e1, eL]; omega)) (by first | omega | (simp only [LN, e1, eL]; omega)) ?_ | refine pick_own default (by first | omega | (simp only [LN, e1, eL]; omega)) ?_ | refine And.intro (by first | decide | omega | assumption | (simp only [LN, e1, eL]; omega)) ?_) | ((with_reducible apply callK_pure); (exact k40)) | ((with_reducible apply callF_lend); (exact k40); rfl) | ((with_reducible apply callF_go); (exact k40)) | ((with_reducible show pickE _ _ _); first | refine pickE_intro _ ⟨by omega, by rfl⟩ ?_ | refine pickE_intro _ (by rfl) ?_) | fail); try simp -dsimp -implicitDefEqProofs (maxSteps := 1000000) (disch := first | omega | (simp only [LN, e1, eL]; omega)) only [go_sem, e1, eL])
      | fail)
     all_goals try omega
     refine r_loopA (α := Nat × Nat × List LP) [0, 1, 6] (fun q b => [(5, aI q.2.1), (7, aI q.1)]) (fun q b => [(0, .arr 1 (q.2.2.map eL))]) (fun q => []) (fun q => 1 ≤ q.1 ∧ i + q.1 ≤ A.length ∧ i ≤ q.2.1 ∧ q.2.1 + 1 ≤ i + q.1 ∧ q.2.2.length = A.length ∧ q.2.2.take q.2.1 = dd (A.take (i + q.1)) ∧ ∀ j, i + q.1 ≤ j + 1 → q.2.2.getD j default = A.getD j default) (fun q => A.length - i - q.1) ((1, i, A)) ?h0_2 ?hs0_2 ?I_2 ?hI_2 ?round_2
     case hI_2 => intro x; (simp -dsimp -implicitDefEqProofs (maxSteps := 1000000) (disch := first | omega | (simp only [LN]; omega)) only [go_sem]) <;> exact rfl
     case hs0_2 => refine wk_auto ?_; (simp -dsimp -implicitDefEqProofs (maxSteps := 1000000) (disch := first | omega | (simp only [LN]; omega)) only [go_sem]) <;> (try omega)
     case h0_2 => exact ⟨Nat.le_refl _, by dsimp only; omega, Nat.le_refl _, by dsimp only; omega, rfl, hs.symm, fun _ _ => rfl⟩
     case round_2 =>
      rintro ⟨k2, k, B⟩ ⟨q1, q2, q3, q4, q5, q6, q7⟩
      dsimp only at q1 q2 q3 q4 q5 q6 q7
      by_cases hk : i + k2 < A.length
      ·have kk := c40 (B.getD (i + k2) default) (B.getD (i + (k2 - 1)) default)
       have e2 : ((k2 : Int) - 1).toNat = k2 - 1 := by omega
       have hs2 := dd_take (A := A) (i := i + k2) (by omega) hk
       rw [q7 (i + k2) (by omega), q7 (i + (k2 - 1)) (by omega)] at kk
       have g1 := q7 (i + k2) (by omega)
       have g2 := q7 (i + (k2 - 1)) (by omega)
       rw [show i + k2 - 1 = i + (k2 - 1) by omega] at hs2
       by_cases he2 : A.getD (i + k2) default = A.getD (i + (k2 - 1)) default
       ·rw [decide_eq_true he2] at kk
        rw [if_pos he2.symm] at hs2
        repeat' (first
         | (with_reducible first | refine r_seq ?_ | refine r_block ?_ | refine fork_not ?_ | refine fork_and ?_ | refine fork_or ?_ | refine chk_ok (by kernel_rfl) ?_)
         | ((with_reducible first | refine fork_dec ?_ ?_ | refine fork_eq ?_ ?_ | refine fork_ne ?_ ?_ | refine fork_intro ?_ ?_) <;> intro h <;> try (exfalso; first | omega | exact h rfl | (revert h; decide) | (cases h; done)))
         | ((with_reducible show False); omega)
         | ((first | (with_reducible first | refine r_exit ?_ | refine r_skip ?_ | refine r_cond ?_ | refine r_region ?_ | refine r_ret ?_ | show VX _ _ _ _ _ _ _ | show vstep _ _ _ _ _ | show vskip _ _ _ | show withV _ _) | ((with_reducible show endA _ _ _ _ _ _ _); simp -implicitDefEqProofs only [endA]) | (with_reducible first | refine pick_viewG default (by first | omega | (simp only [LN, e2, eL, g1, g2, set_eL]; omega)) (by first | omega | (simp only [LN, e2, eL, g1, g2, set_eL]; omega)) ?_ | refine pick_own default (by first | omega | (simp only [LN, e2, eL, g1, g2, set_eL]; omega)) ?_ | refine And.intro (by first | decide | omega | assumption | (simp only [LN, e2, eL, g1, g2, set_eL]; omega)) ?_) | ((with_reducible apply callK_pure); (exact kk)) | ((with_reducible apply callF_lend); (exact kk); rfl) | ((with_reducible apply callF_go); (exact kk)) | ((with_reducible show pickE _ _ _); first | refine pickE_intro _ ⟨by omega, by rfl⟩ ?_ | refine pickE_intro _ (by rfl) ?_) | fail); try simp -dsimp -implicitDefEqProofs (maxSteps := 1000000) (disch := first | omega | (simp only [LN, e2, eL, g1, g2, set_eL]; omega)) only [go_sem, e2, eL, g1, g2, set_eL])
         | fail)
        all_goals first
         | omega
         | (refine loopQ_next ((k2 + 1, k, B)) ?_ ?_ ?_; (exact ⟨by dsimp only; omega, by dsimp only; omega, q3, by dsimp only; omega, q5, by dsimp only; rw [← Nat.add_assoc, hs2]; exact q6, fun j hj => q7 j (by dsimp only at hj; omega)⟩); (show _ < _; omega); (simp -dsimp -implicitDefEqProofs (maxSteps := 1000000) (disch := first | omega | (simp only [LN]; omega)) only [go_sem]; try trivial))
       ·rw [decide_eq_false he2] at kk
        rw [if_neg (fun e => he2 e.symm)] at hs2
        repeat' (first
         | (with_reducible first | refine r_seq ?_ | refine r_block ?_ | refine fork_not ?_ | refine fork_and ?_ | refine fork_or ?_ | refine chk_ok (by kernel_rfl) ?_)
         | ((with_reducible first | refine fork_dec ?_ ?_ | refine fork_eq ?_ ?_ | refine fork_ne ?_ ?_ | refine fork_intro ?_ ?_) <;> intro h <;> try (exfalso; first | omega | exact h rfl | (revert h; decide) | (cases h; done)))
         | ((with_reducible show False); omega)
         | ((first | (with_reducible first | refine r_exit ?_ | refine r_skip ?_ | refine r_cond ?_ | refine r_region ?_ | refine r_ret ?_ | show VX _ _ _ _ _ _ _ | show vstep _ _ _ _ _ | show vskip _ _ _ | show withV _ _) | ((with_reducible show endA _ _ _ _ _ _ _); simp -implicitDefEqProofs only [endA]) | (with_reducible first | refine pick_viewG default (by first | omega | (simp only [LN, e2, eL, g1, g2, set_eL]; omega)) (by first | omega | (simp only [LN, e2, eL, g1, g2, set_eL]; omega)) ?_ | refine pick_own default (by first | omega | (simp only [LN, e2, eL, g1, g2, set_eL]; omega)) ?_ | refine And.intro (by first | decide | omega | assumption | (simp only [LN, e2, eL, g1, g2, set_eL]; omega)) ?_) | ((with_reducible apply callK_pure); (exact kk)) | ((with_reducible apply callF_lend); (exact kk); rfl) | ((with_reducible apply callF_go); (exact kk)) | ((with_reducible show pickE _ _ _); first | refine pickE_intro _ ⟨by omega, by rfl⟩ ?_ | refine pickE_intro _ (by rfl) ?_) | fail); try simp -dsimp -implicitDefEqProofs (maxSteps := 1000000) (disch := first | omega | (simp only [LN, e2, eL, g1, g2, set_eL]; omega)) only [go_sem, e2, eL, g1, g2, set_eL])
         | fail)
        all_goals first
         | omega
         | (refine loopQ_next ((k2 + 1, k + 1, B.set k (A.getD (i + k2) default))) ?_ ?_ ?_; (exact ⟨by dsimp only; omega, by dsimp only; omega, by dsimp only; omega, by dsimp only; omega, by dsimp only; rw [List.length_set]; exact q5, by dsimp only; rw [take_set (by omega), ← Nat.add_assoc, hs2, q6], fun j hj => by dsimp only at hj ⊢; rw [getD_set_ne (by omega)]; exact q7 j (by omega)⟩); (show _ < _; omega); (simp -dsimp -implicitDefEqProofs (maxSteps := 1000000) (disch := first | omega | (simp only [LN]; omega)) only [go_sem]; try trivial))
      ·have ek : i + k2 = A.length := by omega
       rw [ek, List.take_length] at q6
       have hkl : (dd A).length = k := by rw [← q6, List.length_take]; omega
       have ht := take_clear (A := A) (B := B) (k := k) (by omega) q5 q6
       repeat' (first
        | (with_reducible first | refine r_seq ?_ | refine r_block ?_ | refine fork_not ?_ | refine fork_and ?_ | refine fork_or ?_ | refine chk_ok (by kernel_rfl) ?_)
        | ((with_reducible first | refine fork_dec ?_ ?_ | refine fork_eq ?_ ?_ | refine fork_ne ?_ ?_ | refine fork_intro ?_ ?_) <;> intro h <;> try (exfalso; first | omega | exact h rfl | (revert h; decide) | (cases h; done)))
        | ((with_reducible show False); omega)
        | ((first | (with_reducible first | refine r_exit ?_ | refine r_skip ?_ | refine r_cond ?_ | refine r_region ?_ | refine r_ret ?_ | show VX _ _ _ _ _ _ _ | show vstep _ _ _ _ _ | show vskip _ _ _ | show withV _ _) | ((with_reducible show endA _ _ _ _ _ _ _); simp -implicitDefEqProofs only [endA]) | (with_reducible first | refine pick_viewG default (by first | omega | (simp only [LN, eL, hkl]; omega)) (by first | omega | (simp only [LN, eL, hkl]; omega)) ?_ | refine pick_own default (by first | omega | (simp only [LN, eL, hkl]; omega)) ?_ | refine And.intro (by first | decide | omega | assumption | (simp only [LN, eL, hkl]; omega)) ?_) | ((with_reducible show pickE _ _ _); first | refine pickE_intro _ ⟨by omega, by rfl⟩ ?_ | refine pickE_intro _ (by rfl) ?_) | fail); try simp -dsimp -implicitDefEqProofs (maxSteps := 1000000) (disch := first | omega | (simp only [LN, eL, hkl]; omega)) only [go_sem, eL, hkl])
        | fail)
       all_goals first | (exact .inl ht) | (exact ⟨rfl, .inl ht⟩) | omega | rfl
    ·rw [decide_eq_false he] at k40
     rw [if_neg (fun e => he e.symm), h4] at hs
     have hs : dd (A.take (i + 1)) = A.take (i + 1) := by
      rw [hs, List.take_add_one, List.getD_eq_getElem?_getD, List.getElem?_eq_getElem hi]; rfl
     repeat' (first
      | (with_reducible first | refine r_seq ?_ | refine r_block ?_ | refine fork_not ?_ | refine fork_and ?_ | refine fork_or ?_ | refine chk_ok (by kernel_rfl) ?_)
      | ((with_reducible first | refine fork_dec ?_ ?_ | refine fork_eq ?_ ?_ | refine fork_ne ?_ ?_ | refine fork_intro ?_ ?_) <;> intro h <;> try (exfalso; first | omega | exact h rfl | (revert h; decide) | (cases h; done)))
      | ((with_reducible show False); omega)
      | ((first | (with_reducible first | refine r_exit ?_ | refine r_skip ?_ | refine r_cond ?_ | refine r_region ?_ | refine r_ret ?_ | show VX _ _ _ _ _ _ _ | show vstep _ _ _ _ _ | show vskip _ _ _ | show withV _ _) | ((with_reducible show endA _ _ _ _ _ _ _); simp -implicitDefEqProofs only [endA]) | (with_reducible first | refine pick_viewG default (by first | omega | (simp only [LN, e1, eL]; omega)) (by first | omega | (simp only [LN, e1, eL]; omega)) ?_ | refine pick_own default (by first | omega | (simp only [LN, e1, eL]; omega)) ?_ | refine And.intro (by first | decide | omega | assumption | (simp only [LN, e1, eL]; omega)) ?_) | ((with_reducible apply callK_pure); (exact k40)) | ((with_reducible apply callF_lend); (exact k40); rfl) | ((with_reducible apply callF_go); (exact k40)) | ((with_reducible show pickE _ _ _); first | refine pickE_intro _ ⟨by omega, by rfl⟩ ?_ | refine pickE_intro _ (by rfl) ?_) | fail); try simp -dsimp -implicitDefEqProofs (maxSteps := 1000000) (disch := first | omega | (simp only [LN, e1, eL]; omega)) only [go_sem, e1, eL])
      | fail)
     all_goals first
      | omega
      | (refine loopQ_next (i + 1) ?_ ?_ ?_; (exact ⟨by omega, by omega, hs⟩); (show _ < _; omega); (simp -dsimp -implicitDefEqProofs (maxSteps := 1000000) (disch := first | omega | (simp only [LN]; omega)) only [go_sem]; try trivial))
   ·have hia : i = A.length := by omega
    rw [hia, List.take_length] at h4
    rw [dd_same h4, h4]
    repeat' (first
     | (with_reducible first | refine r_seq ?_ | refine r_block ?_ | refine fork_not ?_ | refine fork_and ?_ | refine fork_or ?_ | refine chk_ok (by kernel_rfl) ?_)
     | ((with_reducible first | refine fork_dec ?_ ?_ | refine fork_eq ?_ ?_ | refine fork_ne ?_ ?_ | refine fork_intro ?_ ?_) <;> intro h <;> try (exfalso; first | omega | exact h rfl | (revert h; decide) | (cases h; done)))
     | ((with_reducible show False); omega)
     | ((first | (with_reducible first | refine r_exit ?_ | refine r_skip ?_ | refine r_cond ?_ | refine r_region ?_ | refine r_ret ?_ | show VX _ _ _ _ _ _ _ | show vstep _ _ _ _ _ | show vskip _ _ _ | show withV _ _) | ((with_reducible show endA _ _ _ _ _ _ _); simp -implicitDefEqProofs only [endA]) | (with_reducible first | refine pick_viewG default (by first | omega | (simp only [LN]; omega)) (by first | omega | (simp only [LN]; omega)) ?_ | refine pick_own default (by first | omega | (simp only [LN]; omega)) ?_ | refine And.intro (by first | decide | omega | assumption | (simp only [LN]; omega)) ?_) | ((with_reducible show pickE _ _ _); first | refine pickE_intro _ ⟨by omega, by rfl⟩ ?_ | refine pickE_intro _ (by rfl) ?_) | fail); try simp -dsimp -implicitDefEqProofs (maxSteps := 1000000) (disch := first | omega | (simp only [LN]; omega)) only [go_sem])
     | fail)
    all_goals first | (exact ⟨rfl, .inl rfl⟩) | omega | rfl
end Go.Proofs.YtpcjeaaplidmaaaDoor