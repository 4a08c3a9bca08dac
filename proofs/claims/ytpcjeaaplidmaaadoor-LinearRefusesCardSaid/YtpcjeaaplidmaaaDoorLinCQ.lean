/- Contracts of functions of this program, and the plain facts that they rest on. No conditions. -/
import Derived.Test.YtpcjeaaplidmaaaDoorLinBQ
set_option linter.unusedSimpArgs false
set_option linter.unusedVariables false
namespace Go.Proofs.YtpcjeaaplidmaaaDoor
open Go Go.Ab
attribute [local irreducible] callK callF loopQ vstep vskip pickE hideP
open Go.RowKit
set_option maxRecDepth 100000
attribute [local go_sem] Hi.eC Hi.hc Hi.hP
def maskN (p : Nat → Bool) : Nat → Nat
 | 0 => 0
 | k + 1 => maskN p k ||| (if p k = true then 2 ^ k else 0)
theorem mask_bit (p : Nat → Bool) (i : Nat) : ∀ k, (maskN p k).testBit i = (decide (i < k) && p i)
 | 0 => by simp [maskN]
 | k + 1 => by
  rw [maskN, Nat.testBit_or, mask_bit p i k]
  by_cases hp : p k = true
  ·rw [if_pos hp, Nat.testBit_two_pow]
   by_cases h : k = i
   ·subst h; simp [hp]
   ·rw [decide_eq_false h, Bool.or_false]
    congr 1; exact decide_eq_decide.2 (by omega)
  ·rw [if_neg hp, Nat.zero_testBit, Bool.or_false]
   by_cases h : k = i
   ·subst h; simp [hp]
   ·congr 1; exact decide_eq_decide.2 (by omega)
theorem mask_lt (p : Nat → Bool) : ∀ k, maskN p k < 2 ^ k
 | 0 => by simp [maskN]
 | k + 1 => by
  rw [maskN]
  refine Nat.or_lt_two_pow (Nat.lt_of_lt_of_le (mask_lt p k) (Nat.pow_le_pow_right (by decide) (by omega))) ?_
  split
  ·exact Nat.pow_lt_pow_right (by decide) (by omega)
  ·exact Nat.pow_pos (by decide)
def endP (l : List Hi.C) (a : Nat) : Bool := decide (0 ≤ (l.getD a default).en)
def befP (l : List Hi.C) (a b : Nat) : Bool := decide (Hi.befM l a b)
def befV (l : List Hi.C) (a b i : Nat) : Nat := if i < a then maskN (befP l i) l.length else if i = a then maskN (befP l i) b else 0
def befL (l : List Hi.C) (a b : Nat) : List Nat := (List.range l.length).map (befV l a b)
theorem befL_len (l : List Hi.C) (a b : Nat) : (befL l a b).length = l.length := by simp [befL]
def eM (n : Nat) : PV := .v (.int .u64 n)
def endN (l : List Hi.C) : Nat := maskN (endP l) l.length
theorem mask_0 (p : Nat → Bool) : maskN p 0 = 0 := rfl
theorem mask_s (p : Nat → Bool) (k : Nat) : maskN p (k + 1) = maskN p k ||| (if p k = true then 2 ^ k else 0) := rfl
theorem befL_00 (l : List Hi.C) : List.replicate l.length (PV.v (.int .u64 0)) = (befL l 0 0).map eM := by
 unfold befL
 rw [List.map_map]
 apply List.ext_getElem (by simp)
 intro i h1 h2
 have : befV l 0 0 i = 0 := by
  unfold befV
  rw [if_neg (by omega)]
  split <;> rfl
 simp [this, eM]
theorem bw (a : Nat) : IntKind.u64.wrap (a : Int) = ((a % 18446744073709551616 : Nat) : Int) := by rw [IntKind.wrap_u64]; omega
theorem or1 (m a : Nat) (hm : m < 1024) (ha : a < 10) : IntKind.u64.wrap ((BitVec.ofInt IntKind.u64.bits (m : Int) ||| BitVec.ofInt IntKind.u64.bits (IntKind.u64.wrap (1 * 2 ^ a))).toNat : Int) = ((m ||| 2 ^ a : Nat) : Int) := by
 have h1 : (2 : Nat) ^ a < 2 ^ 10 := Nat.pow_lt_pow_right (by decide) ha
 have h2 : m ||| 2 ^ a < 2 ^ 10 := Nat.or_lt_two_pow (by omega) h1
 have e : IntKind.u64.wrap (1 * 2 ^ a) = ((2 ^ a : Nat) : Int) := by
  rw [show (1 : Int) * 2 ^ a = ((2 ^ a : Nat) : Int) by push_cast; omega, bw, Nat.mod_eq_of_lt (by omega)]
 rw [e]
 show IntKind.u64.wrap ((BitVec.ofInt 64 (m : Int) ||| BitVec.ofInt 64 ((2 ^ a : Nat) : Int)).toNat : Int) = _
 rw [BitVec.ofInt_natCast, BitVec.ofInt_natCast, BitVec.toNat_or, BitVec.toNat_ofNat, BitVec.toNat_ofNat, Nat.mod_eq_of_lt (by omega), Nat.mod_eq_of_lt (by omega), bw, Nat.mod_eq_of_lt (by omega)]
theorem befV_lt (l : List Hi.C) (a b i : Nat) (hl : l.length ≤ 10) (hb : b ≤ l.length) : befV l a b i < 1024 := by
 have key : ∀ p k, k ≤ 10 → maskN p k < 1024 := fun p k hk => Nat.lt_of_lt_of_le (mask_lt p k) (Nat.pow_le_pow_right (show 0 < 2 by decide) hk)
 unfold befV
 split
 ·exact key _ _ hl
 ·split
  ·exact key _ _ (by omega)
  ·decide
theorem befL_get {l : List Hi.C} {a b i : Nat} (h : i < l.length) : (befL l a b).getD i default = befV l a b i := by
 unfold befL
 rw [List.getD_eq_getElem?_getD, List.getElem?_map, List.getElem?_range h]; rfl
theorem befL_set {l : List Hi.C} {a b m : Nat} (h : a < l.length) (hm : m = befV l a (b + 1) a) : (befL l a b).set a m = befL l a (b + 1) := by
 apply List.ext_getElem (by simp [befL])
 intro i h1 h2
 rw [List.getElem_set]
 by_cases e : a = i
 ·subst e; rw [if_pos rfl, hm]; simp [befL]
 ·rw [if_neg e]; simp only [befL, List.getElem_map, List.getElem_range]
  unfold befV
  by_cases h4 : i < a
  ·rw [if_pos h4, if_pos h4]
  ·rw [if_neg h4, if_neg h4, if_neg (fun h => e h.symm), if_neg (fun h => e h.symm)]
theorem befL_next (l : List Hi.C) (a : Nat) : befL l a l.length = befL l (a + 1) 0 := by
 unfold befL
 apply List.map_congr_left
 intro i _
 unfold befV
 by_cases h : i < a
 ·rw [if_pos h, if_pos (by omega)]
 ·rw [if_neg h]
  by_cases h2 : i = a
  ·rw [if_pos h2, if_pos (by omega)]
  ·rw [if_neg h2, if_neg (by omega)]
   split <;> rfl
theorem befV_yes {l : List Hi.C} {a c : Nat} (h : befP l a c = true) : befV l a (c + 1) a = befV l a c a ||| 2 ^ c := by
 unfold befV
 rw [if_neg (Nat.lt_irrefl _), if_pos rfl, if_neg (Nat.lt_irrefl _), if_pos rfl, mask_s, if_pos h]
theorem befV_no {l : List Hi.C} {a c : Nat} (h : befP l a c = false) : befL l a (c + 1) = befL l a c := by
 unfold befL
 apply List.map_congr_left
 intro i _
 unfold befV
 split
 ·rfl
 ·split
  ·rename_i e
   subst e
   rw [mask_s, h, if_neg (by decide), Nat.or_zero]
  ·rfl
theorem endN_yes {l : List Hi.C} {a : Nat} (h : 0 ≤ (l.getD a default).en) : maskN (endP l) (a + 1) = maskN (endP l) a ||| 2 ^ a := by
 rw [mask_s, if_pos (show endP l a = true from decide_eq_true h)]
theorem endN_no {l : List Hi.C} {a : Nat} (h : ¬ 0 ≤ (l.getD a default).en) : maskN (endP l) (a + 1) = maskN (endP l) a := by
 rw [mask_s, if_neg (by unfold endP; rw [decide_eq_false h]; decide), Nat.or_zero]
def sV (l : List Hi.C) (e : Nat) (i j : Nat) (o f : AV) : Ob := .var [.p (.view 11 (l.map Hi.eC)), .sl i 1 0 l.length, .p (.v (.int .u64 e)), .mref j, o, f]
attribute [local go_sem] sV eM
set_option maxRecDepth 100000 in
set_option maxHeartbeats 4000000 in
theorem a29 (k : Int) (x : Hi.H) (hk : examE k x.cl = 0) (hl : x.cl.length ≤ 10) : ACalls Tryd.prog 29 [.p (.v (.int .u8 k)), .p (Hi.hP x)] [] (.tup [.loc 0 0, .p (.v (.int .i64 0))]) [sV x.cl (endN x.cl) 1 2 (.p (.v (.slice none 0 0))) (.p (.v .nilFunc)), .arr 1 ((befL x.cl x.cl.length 0).map eM), .mp none (.b fun _ => false)] := by
 refine acalls_of (E := E) (fn := Tryd.f29) 73 [.tmp 4, .tmp 5] rfl rfl rfl rfl (by decide) rfl rfl ?_
 have c35 := c35 k x (by omega)
 rw [hk, if_pos rfl] at c35
 repeat' (first
  | (with_reducible first | refine r_seq ?_ | refine r_block ?_ | refine fork_not ?_ | refine fork_and ?_ | refine fork_or ?_ | refine chk_ok (by kernel_rfl) ?_)
  | ((with_reducible first | refine fork_dec ?_ ?_ | refine fork_eq ?_ ?_ | refine fork_ne ?_ ?_ | refine fork_intro ?_ ?_) <;> intro h <;> try (exfalso; first | omega | exact h rfl | (revert h; decide) | (cases h; done)))
  | ((with_reducible show False); omega)
  | ((first | (with_reducible first | refine r_exit ?_ | refine r_skip ?_ | refine r_cond ?_ | refine r_region ?_ | refine r_ret ?_ | show VX _ _ _ _ _ _ _ | show vstep _ _ _ _ _ | show vskip _ _ _ | show withV _ _) | ((with_reducible show endA _ _ _ _ _ _ _); simp -implicitDefEqProofs only [endA]) | (with_reducible first | refine pick_viewG default (by first | omega | (simp only [LN]; omega)) (by first | omega | (simp only [LN]; omega)) ?_ | refine pick_own default (by first | omega | (simp only [LN]; omega)) ?_ | refine And.intro (by first | decide | omega | assumption | (simp only [LN]; omega)) ?_) | ((with_reducible apply callK_pure); (exact c35)) | ((with_reducible apply callF_lend); (exact c35); rfl) | ((with_reducible apply callF_go); (exact c35)) | ((with_reducible show pickE _ _ _); first | refine pickE_intro _ ⟨by omega, by rfl⟩ ?_ | refine pickE_intro _ (by rfl) ?_) | fail); try simp -dsimp -implicitDefEqProofs (maxSteps := 1000000) (disch := first | omega | (simp only [LN]; omega)) only [go_sem])
  | fail)
 refine r_loopA (α := Nat) [1, 6, 8, 31, 32] (fun a b => [(33, aI a)]) (fun a b => [(8, sV x.cl (maskN (endP x.cl) a) b (b + 1) (.p (.v (.slice none 0 0))) (.p (.v .nilFunc)))]) (fun a => [.arr 1 ((befL x.cl a 0).map eM), .mp none (.b fun _ => false)]) (fun a => a ≤ x.cl.length) (fun a => x.cl.length - a) (0) ?h0_1 ?hs0_1 ?I_1 ?hI_1 ?round_1
 case hI_1 => intro x; (simp -dsimp -implicitDefEqProofs (maxSteps := 1000000) (disch := first | omega | (simp only [LN]; omega)) only [go_sem]) <;> exact rfl
 case hs0_1 => refine wk_auto ?_; (simp -dsimp -implicitDefEqProofs (maxSteps := 1000000) (disch := first | omega | (simp only [LN, mask_0, befL_00]; omega)) only [go_sem, mask_0, befL_00]) <;> (try omega)
 case h0_1 => exact Nat.zero_le _
 case round_1 =>
  intro a ha
  by_cases hal : a < x.cl.length
  ·have hm1 : maskN (endP x.cl) a < 1024 := Nat.lt_of_lt_of_le (mask_lt _ a) (Nat.pow_le_pow_right (show 0 < 2 by decide) (show a ≤ 10 by omega))
   have ho := or1 (maskN (endP x.cl) a) a hm1 (by omega)
   obtain ⟨E1, hE1⟩ : ∃ E1, maskN (endP x.cl) (a + 1) = E1 := ⟨_, rfl⟩
   by_cases he : 0 ≤ (x.cl.getD a default).en
   ·rw [← endN_yes he, hE1] at ho
    repeat' (first
     | (with_reducible first | refine r_seq ?_ | refine r_block ?_ | refine fork_not ?_ | refine fork_and ?_ | refine fork_or ?_ | refine chk_ok (by kernel_rfl) ?_)
     | ((with_reducible first | refine fork_dec ?_ ?_ | refine fork_eq ?_ ?_ | refine fork_ne ?_ ?_ | refine fork_intro ?_ ?_) <;> intro h <;> try (exfalso; first | omega | exact h rfl | (revert h; decide) | (cases h; done)))
     | ((with_reducible show False); omega)
     | ((first | (with_reducible first | refine r_exit ?_ | refine r_skip ?_ | refine r_cond ?_ | refine r_region ?_ | refine r_ret ?_ | show VX _ _ _ _ _ _ _ | show vstep _ _ _ _ _ | show vskip _ _ _ | show withV _ _) | ((with_reducible show endA _ _ _ _ _ _ _); simp -implicitDefEqProofs only [endA]) | (with_reducible first | refine pick_viewG default (by first | omega | (simp only [LN, ho]; omega)) (by first | omega | (simp only [LN, ho]; omega)) ?_ | refine pick_own default (by first | omega | (simp only [LN, ho]; omega)) ?_ | refine And.intro (by first | decide | omega | assumption | (simp only [LN, ho]; omega)) ?_) | ((with_reducible show pickE _ _ _); first | refine pickE_intro _ ⟨by omega, by rfl⟩ ?_ | refine pickE_intro _ (by rfl) ?_) | fail); try simp -dsimp -implicitDefEqProofs (maxSteps := 1000000) (disch := first | omega | (simp only [LN, ho]; omega)) only [go_sem, ho])
     | fail)
    refine r_loopA (α := Nat) [1, 6, 8, 9, 31, 32, 33, 51] (fun c b => [(52, aI c)]) (fun c b => [(8, sV x.cl E1 b (b + 1) (.p (.v (.slice none 0 0))) (.p (.v .nilFunc)))]) (fun c => [.arr 1 ((befL x.cl a c).map eM), .mp none (.b fun _ => false)]) (fun c => c ≤ x.cl.length) (fun c => x.cl.length - c) (0) ?h0_2 ?hs0_2 ?I_2 ?hI_2 ?round_2
    case hI_2 => intro x; (simp -dsimp -implicitDefEqProofs (maxSteps := 1000000) (disch := first | omega | (simp only [LN]; omega)) only [go_sem]) <;> exact rfl
    case hs0_2 => refine wk_auto ?_; (simp -dsimp -implicitDefEqProofs (maxSteps := 1000000) (disch := first | omega | (simp only [LN, ho]; omega)) only [go_sem, ho]) <;> (try omega)
    case h0_2 => exact Nat.zero_le _
    case round_2 =>
     intro c hc
     by_cases hcl : c < x.cl.length
     ·have k14 := Hi.c14 x a c
      have hb0 := befL_len x.cl a c
      have hg := befL_get (l := x.cl) (a := a) (b := c) hal
      have hv := befV_lt x.cl a c a hl hc
      have hor := or1 (befV x.cl a c a) c hv (by omega)
      cases hbp : befP x.cl a c with
      | true =>
       rw [show decide (Hi.befM x.cl a c) = true from hbp] at k14
       have hs := befL_set (l := x.cl) (a := a) (b := c) hal rfl
       rw [befV_yes hbp] at hs
       repeat' (first
        | (with_reducible first | refine r_seq ?_ | refine r_block ?_ | refine fork_not ?_ | refine fork_and ?_ | refine fork_or ?_ | refine chk_ok (by kernel_rfl) ?_)
        | ((with_reducible first | refine fork_dec ?_ ?_ | refine fork_eq ?_ ?_ | refine fork_ne ?_ ?_ | refine fork_intro ?_ ?_) <;> intro h <;> try (exfalso; first | omega | exact h rfl | (revert h; decide) | (cases h; done)))
        | ((with_reducible show False); omega)
        | ((first | (with_reducible first | refine r_exit ?_ | refine r_skip ?_ | refine r_cond ?_ | refine r_region ?_ | refine r_ret ?_ | show VX _ _ _ _ _ _ _ | show vstep _ _ _ _ _ | show vskip _ _ _ | show withV _ _) | ((with_reducible show endA _ _ _ _ _ _ _); simp -implicitDefEqProofs only [endA]) | (with_reducible first | refine pick_viewG default (by first | omega | (simp only [LN, hb0, hg, hor]; omega)) (by first | omega | (simp only [LN, hb0, hg, hor]; omega)) ?_ | refine pick_own default (by first | omega | (simp only [LN, hb0, hg, hor]; omega)) ?_ | refine And.intro (by first | decide | omega | assumption | (simp only [LN, hb0, hg, hor]; omega)) ?_) | ((with_reducible apply callK_pure); (exact k14)) | ((with_reducible apply callF_lend); (exact k14); rfl) | ((with_reducible apply callF_go); (exact k14)) | ((with_reducible show pickE _ _ _); first | refine pickE_intro _ ⟨by omega, by rfl⟩ ?_ | refine pickE_intro _ (by rfl) ?_) | fail); try simp -dsimp -implicitDefEqProofs (maxSteps := 1000000) (disch := first | omega | (simp only [LN, hb0, hg, hor]; omega)) only [go_sem, hb0, hg, hor])
        | fail)
       (refine loopQ_next (c + 1) ?_ ?_ ?_; (omega); (show _ < _; omega); (simp -dsimp -implicitDefEqProofs (maxSteps := 1000000) (disch := first | omega | (simp only [LN, ← hs, List.map_set]; omega)) only [go_sem, ← hs, List.map_set]; try trivial))
      | false =>
       rw [show decide (Hi.befM x.cl a c) = false from hbp] at k14
       have hs := befV_no hbp
       repeat' (first
        | (with_reducible first | refine r_seq ?_ | refine r_block ?_ | refine fork_not ?_ | refine fork_and ?_ | refine fork_or ?_ | refine chk_ok (by kernel_rfl) ?_)
        | ((with_reducible first | refine fork_dec ?_ ?_ | refine fork_eq ?_ ?_ | refine fork_ne ?_ ?_ | refine fork_intro ?_ ?_) <;> intro h <;> try (exfalso; first | omega | exact h rfl | (revert h; decide) | (cases h; done)))
        | ((with_reducible show False); omega)
        | ((first | (with_reducible first | refine r_exit ?_ | refine r_skip ?_ | refine r_cond ?_ | refine r_region ?_ | refine r_ret ?_ | show VX _ _ _ _ _ _ _ | show vstep _ _ _ _ _ | show vskip _ _ _ | show withV _ _) | ((with_reducible show endA _ _ _ _ _ _ _); simp -implicitDefEqProofs only [endA]) | (with_reducible first | refine pick_viewG default (by first | omega | (simp only [LN, hb0, hg]; omega)) (by first | omega | (simp only [LN, hb0, hg]; omega)) ?_ | refine pick_own default (by first | omega | (simp only [LN, hb0, hg]; omega)) ?_ | refine And.intro (by first | decide | omega | assumption | (simp only [LN, hb0, hg]; omega)) ?_) | ((with_reducible apply callK_pure); (exact k14)) | ((with_reducible apply callF_lend); (exact k14); rfl) | ((with_reducible apply callF_go); (exact k14)) | ((with_reducible show pickE _ _ _); first | refine pickE_intro _ ⟨by omega, by rfl⟩ ?_ | refine pickE_intro _ (by rfl) ?_) | fail); try simp -dsimp -implicitDefEqProofs (maxSteps := 1000000) (disch := first | omega | (simp only [LN, hb0, hg]; omega)) only [go_sem, hb0, hg])
        | fail)
       (refine loopQ_next (c + 1) ?_ ?_ ?_; (omega); (show _ < _; omega); (simp -dsimp -implicitDefEqProofs (maxSteps := 1000000) (disch := first | omega | (simp only [LN, hs]; omega)) only [go_sem, hs]; try trivial))
     ·obtain rfl : c = x.cl.length := by omega
      repeat' (first
       | (with_reducible first | refine r_seq ?_ | refine r_block ?_ | refine fork_not ?_ | refine fork_and ?_ | refine fork_or ?_ | refine chk_ok (by kernel_rfl) ?_)
       | ((with_reducible first | refine fork_dec ?_ ?_ | refine fork_eq ?_ ?_ | refine fork_ne ?_ ?_ | refine fork_intro ?_ ?_) <;> intro h <;> try (exfalso; first | omega | exact h rfl | (revert h; decide) | (cases h; done)))
       | ((with_reducible show False); omega)
       | ((first | (with_reducible first | refine r_exit ?_ | refine r_skip ?_ | refine r_cond ?_ | refine r_region ?_ | refine r_ret ?_ | show VX _ _ _ _ _ _ _ | show vstep _ _ _ _ _ | show vskip _ _ _ | show withV _ _) | ((with_reducible show endA _ _ _ _ _ _ _); simp -implicitDefEqProofs only [endA]) | (with_reducible first | refine pick_viewG default (by first | omega | (simp only [LN]; omega)) (by first | omega | (simp only [LN]; omega)) ?_ | refine pick_own default (by first | omega | (simp only [LN]; omega)) ?_ | refine And.intro (by first | decide | omega | assumption | (simp only [LN]; omega)) ?_) | ((with_reducible show pickE _ _ _); first | refine pickE_intro _ ⟨by omega, by rfl⟩ ?_ | refine pickE_intro _ (by rfl) ?_) | fail); try simp -dsimp -implicitDefEqProofs (maxSteps := 1000000) (disch := first | omega | (simp only [LN]; omega)) only [go_sem])
       | fail)
      (refine loopQ_next (a + 1) ?_ ?_ ?_; (omega); (show _ < _; omega); (simp -dsimp -implicitDefEqProofs (maxSteps := 1000000) (disch := first | omega | (simp only [LN, hE1, befL_next]; omega)) only [go_sem, hE1, befL_next]; try trivial))
   ·have hn := endN_no he
    rw [hE1] at hn
    repeat' (first
     | (with_reducible first | refine r_seq ?_ | refine r_block ?_ | refine fork_not ?_ | refine fork_and ?_ | refine fork_or ?_ | refine chk_ok (by kernel_rfl) ?_)
     | ((with_reducible first | refine fork_dec ?_ ?_ | refine fork_eq ?_ ?_ | refine fork_ne ?_ ?_ | refine fork_intro ?_ ?_) <;> intro h <;> try (exfalso; first | omega | exact h rfl | (revert h; decide) | (cases h; done)))
     | ((with_reducible show False); omega)
     | ((first | (with_reducible first | refine r_exit ?_ | refine r_skip ?_ | refine r_cond ?_ | refine r_region ?_ | refine r_ret ?_ | show VX _ _ _ _ _ _ _ | show vstep _ _ _ _ _ | show vskip _ _ _ | show withV _ _) | ((with_reducible show endA _ _ _ _ _ _ _); simp -implicitDefEqProofs only [endA]) | (with_reducible first | refine pick_viewG default (by first | omega | (simp only [LN]; omega)) (by first | omega | (simp only [LN]; omega)) ?_ | refine pick_own default (by first | omega | (simp only [LN]; omega)) ?_ | refine And.intro (by first | decide | omega | assumption | (simp only [LN]; omega)) ?_) | ((with_reducible show pickE _ _ _); first | refine pickE_intro _ ⟨by omega, by rfl⟩ ?_ | refine pickE_intro _ (by rfl) ?_) | fail); try simp -dsimp -implicitDefEqProofs (maxSteps := 1000000) (disch := first | omega | (simp only [LN]; omega)) only [go_sem])
     | fail)
    refine r_loopA (α := Nat) [1, 6, 8, 9, 31, 32, 33, 51] (fun c b => [(52, aI c)]) (fun c b => [(8, sV x.cl E1 b (b + 1) (.p (.v (.slice none 0 0))) (.p (.v .nilFunc)))]) (fun c => [.arr 1 ((befL x.cl a c).map eM), .mp none (.b fun _ => false)]) (fun c => c ≤ x.cl.length) (fun c => x.cl.length - c) (0) ?h0_3 ?hs0_3 ?I_3 ?hI_3 ?round_3
    case hI_3 => intro x; (simp -dsimp -implicitDefEqProofs (maxSteps := 1000000) (disch := first | omega | (simp only [LN]; omega)) only [go_sem]) <;> exact rfl
    case hs0_3 => refine wk_auto ?_; (simp -dsimp -implicitDefEqProofs (maxSteps := 1000000) (disch := first | omega | (simp only [LN, hn]; omega)) only [go_sem, hn]) <;> (try omega)
    case h0_3 => exact Nat.zero_le _
    case round_3 =>
     intro c hc
     by_cases hcl : c < x.cl.length
     ·have k14 := Hi.c14 x a c
      have hb0 := befL_len x.cl a c
      have hg := befL_get (l := x.cl) (a := a) (b := c) hal
      have hv := befV_lt x.cl a c a hl hc
      have hor := or1 (befV x.cl a c a) c hv (by omega)
      cases hbp : befP x.cl a c with
      | true =>
       rw [show decide (Hi.befM x.cl a c) = true from hbp] at k14
       have hs := befL_set (l := x.cl) (a := a) (b := c) hal rfl
       rw [befV_yes hbp] at hs
       repeat' (first
        | (with_reducible first | refine r_seq ?_ | refine r_block ?_ | refine fork_not ?_ | refine fork_and ?_ | refine fork_or ?_ | refine chk_ok (by kernel_rfl) ?_)
        | ((with_reducible first | refine fork_dec ?_ ?_ | refine fork_eq ?_ ?_ | refine fork_ne ?_ ?_ | refine fork_intro ?_ ?_) <;> intro h <;> try (exfalso; first | omega | exact h rfl | (revert h; decide) | (cases h; done)))
        | ((with_reducible show False); omega)
        | ((first | (with_reducible first | refine r_exit ?_ | refine r_skip ?_ | refine r_cond ?_ | refine r_region ?_ | refine r_ret ?_ | show VX _ _ _ _ _ _ _ | show vstep _ _ _ _ _ | show vskip _ _ _ | show withV _ _) | ((with_reducible show endA _ _ _ _ _ _ _); simp -implicitDefEqProofs only [endA]) | (with_reducible first | refine pick_viewG default (by first | omega | (simp only [LN, hb0, hg, hor]; omega)) (by first | omega | (simp only [LN, hb0, hg, hor]; omega)) ?_ | refine pick_own default (by first | omega | (simp only [LN, hb0, hg, hor]; omega)) ?_ | refine And.intro (by first | decide | omega | assumption | (simp only [LN, hb0, hg, hor]; omega)) ?_) | ((with_reducible apply callK_pure); (exact k14)) | ((with_reducible apply callF_lend); (exact k14); rfl) | ((with_reducible apply callF_go); (exact k14)) | ((with_reducible show pickE _ _ _); first | refine pickE_intro _ ⟨by omega, by rfl⟩ ?_ | refine pickE_intro _ (by rfl) ?_) | fail); try simp -dsimp -implicitDefEqProofs (maxSteps := 1000000) (disch := first | omega | (simp only [LN, hb0, hg, hor]; omega)) only [go_sem, hb0, hg, hor])
        | fail)
       (refine loopQ_next (c + 1) ?_ ?_ ?_; (omega); (show _ < _; omega); (simp -dsimp -implicitDefEqProofs (maxSteps := 1000000) (disch := first | omega | (simp only [LN, ← hs, List.map_set]; omega)) only [go_sem, ← hs, List.map_set]; try trivial))
      | false =>
       rw [show decide (Hi.befM x.cl a c) = false from hbp] at k14
       have hs := befV_no hbp
       repeat' (first
        | (with_reducible first | refine r_seq ?_ | refine r_block ?_ | refine fork_not ?_ | refine fork_and ?_ | refine fork_or ?_ | refine chk_ok (by kernel_rfl) ?_)
        | ((with_reducible first | refine fork_dec ?_ ?_ | refine fork_eq ?_ ?_ | refine fork_ne ?_ ?_ | refine fork_intro ?_ ?_) <;> intro h <;> try (exfalso; first | omega | exact h rfl | (revert h; decide) | (cases h; done)))
        | ((with_reducible show False); omega)
        | ((first | (with_reducible first | refine r_exit ?_ | refine r_skip ?_ | refine r_cond ?_ | refine r_region ?_ | refine r_ret ?_ | show VX _ _ _ _ _ _ _ | show vstep _ _ _ _ _ | show vskip _ _ _ | show withV _ _) | ((with_reducible show endA _ _ _ _ _ _ _); simp -implicitDefEqProofs only [endA]) | (with_reducible first | refine pick_viewG default (by first | omega | (simp only [LN, hb0, hg]; omega)) (by first | omega | (simp only [LN, hb0, hg]; omega)) ?_ | refine pick_own default (by first | omega | (simp only [LN, hb0, hg]; omega)) ?_ | refine And.intro (by first | decide | omega | assumption | (simp only [LN, hb0, hg]; omega)) ?_) | ((with_reducible apply callK_pure); (exact k14)) | ((with_reducible apply callF_lend); (exact k14); rfl) | ((with_reducible apply callF_go); (exact k14)) | ((with_reducible show pickE _ _ _); first | refine pickE_intro _ ⟨by omega, by rfl⟩ ?_ | refine pickE_intro _ (by rfl) ?_) | fail); try simp -dsimp -implicitDefEqProofs (maxSteps := 1000000) (disch := first | omega | (simp only [LN, hb0, hg]; omega)) only [go_sem, hb0, hg])
        | fail)
       (refine loopQ_next (c + 1) ?_ ?_ ?_; (omega); (show _ < _; omega); (simp -dsimp -implicitDefEqProofs (maxSteps := 1000000) (disch := first | omega | (simp only [LN, hs]; omega)) only [go_sem, hs]; try trivial))
     ·obtain rfl : c = x.cl.length := by omega
      repeat' (first
       | (with_reducible first | refine r_seq ?_ | refine r_block ?_ | refine fork_not ?_ | refine fork_and ?_ | refine fork_or ?_ | refine chk_ok (by kernel_rfl) ?_)
       | ((with_reducible first | refine fork_dec ?_ ?_ | refine fork_eq ?_ ?_ | refine fork_ne ?_ ?_ | refine fork_intro ?_ ?_) <;> intro h <;> try (exfalso; first | omega | exact h rfl | (revert h; decide) | (cases h; done)))
       | ((with_reducible show False); omega)
       | ((first | (with_reducible first | refine r_exit ?_ | refine r_skip ?_ | refine r_cond ?_ | refine r_region ?_ | refine r_ret ?_ | show VX _ _ _ _ _ _ _ | show vstep _ _ _ _ _ | show vskip _ _ _ | show withV _ _) | ((with_reducible show endA _ _ _ _ _ _ _); simp -implicitDefEqProofs only [endA]) | (with_reducible first | refine pick_viewG default (by first | omega | (simp only [LN]; omega)) (by first | omega | (simp only [LN]; omega)) ?_ | refine pick_own default (by first | omega | (simp only [LN]; omega)) ?_ | refine And.intro (by first | decide | omega | assumption | (simp only [LN]; omega)) ?_) | ((with_reducible show pickE _ _ _); first | refine pickE_intro _ ⟨by omega, by rfl⟩ ?_ | refine pickE_intro _ (by rfl) ?_) | fail); try simp -dsimp -implicitDefEqProofs (maxSteps := 1000000) (disch := first | omega | (simp only [LN]; omega)) only [go_sem])
       | fail)
      (refine loopQ_next (a + 1) ?_ ?_ ?_; (omega); (show _ < _; omega); (simp -dsimp -implicitDefEqProofs (maxSteps := 1000000) (disch := first | omega | (simp only [LN, hE1, befL_next]; omega)) only [go_sem, hE1, befL_next]; try trivial))
  ·obtain rfl : a = x.cl.length := by omega
   repeat' (first
    | (with_reducible first | refine r_seq ?_ | refine r_block ?_ | refine fork_not ?_ | refine fork_and ?_ | refine fork_or ?_ | refine chk_ok (by kernel_rfl) ?_)
    | ((with_reducible first | refine fork_dec ?_ ?_ | refine fork_eq ?_ ?_ | refine fork_ne ?_ ?_ | refine fork_intro ?_ ?_) <;> intro h <;> try (exfalso; first | omega | exact h rfl | (revert h; decide) | (cases h; done)))
    | ((with_reducible show False); omega)
    | ((first | (with_reducible first | refine r_exit ?_ | refine r_skip ?_ | refine r_cond ?_ | refine r_region ?_ | refine r_ret ?_ | show VX _ _ _ _ _ _ _ | show vstep _ _ _ _ _ | show vskip _ _ _ | show withV _ _) | ((with_reducible show endA _ _ _ _ _ _ _); simp -implicitDefEqProofs only [endA]) | (with_reducible first | refine pick_viewG default (by first | omega | (simp only [LN]; omega)) (by first | omega | (simp only [LN]; omega)) ?_ | refine pick_own default (by first | omega | (simp only [LN]; omega)) ?_ | refine And.intro (by first | decide | omega | assumption | (simp only [LN]; omega)) ?_) | ((with_reducible show pickE _ _ _); first | refine pickE_intro _ ⟨by omega, by rfl⟩ ?_ | refine pickE_intro _ (by rfl) ?_) | fail); try simp -dsimp -implicitDefEqProofs (maxSteps := 1000000) (disch := first | omega | (simp only [LN]; omega)) only [go_sem])
    | fail)
   all_goals first | rfl
end Go.Proofs.YtpcjeaaplidmaaaDoor