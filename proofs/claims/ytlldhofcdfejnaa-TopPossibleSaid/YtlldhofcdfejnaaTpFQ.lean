/- Contracts of functions of this program, and the plain facts that they rest on. No conditions. -/
import Derived.Test.YtlldhofcdfejnaaTpEQ
import Derived.Test.YtlldhofcdfejnaaTpCQ
import Derived.Test.YtlldhofcdfejnaaDvLQ
set_option linter.unusedSimpArgs false
set_option linter.unusedVariables false
namespace Go.Proofs.Ytlldhofcdfejnaa
open Go Go.Ab
attribute [local irreducible] callK callF loopQ vstep vskip pickE hideP
set_option maxRecDepth 100000
abbrev Hs := List (List (Int × Int))
def eHs (l : List (Int × Int)) : PV := .view 2 (l.map eWr)
def eSet (p : List UInt8) (d : List Nat) (h : Hs) : PV := .agg [.view 1 (p.map eB), .view 1 (d.map eNd), .view 1 (h.map eHs)]
def prodT (h : Hs) : Nat := h.foldl (fun a l => a * (l.length + 1)) 1
theorem foldT (h : Hs) (a : Nat) : h.foldl (fun a l => a * (l.length + 1)) a = a * prodT h := by
 unfold prodT
 induction h generalizing a with
 | nil => simp
 | cons l h ih => rw [List.foldl_cons, List.foldl_cons, ih, ih (1 * _), Nat.one_mul, Nat.mul_assoc]
theorem prodT_c (l : List (Int × Int)) (h : Hs) : prodT (l :: h) = (l.length + 1) * prodT h := by
 show h.foldl _ (1 * (l.length + 1)) = _; rw [foldT, Nat.one_mul]
theorem prodT_pos (h : Hs) : 1 ≤ prodT h := by
 induction h with
 | nil => exact Nat.le_refl 1
 | cons l h ih => rw [prodT_c]; exact Nat.mul_pos (Nat.succ_pos _) ih
theorem prodT_s (h : Hs) {i : Nat} (hi : i < h.length) : prodT (h.take (i + 1)) = prodT (h.take i) * ((h.getD i default).length + 1) := by
 rw [take_getD default hi, prodT, List.foldl_append]; rfl
theorem prodT_le (h : Hs) (i : Nat) : prodT (h.take i) ≤ prodT h := by
 have e : prodT h = prodT (h.take i) * prodT (h.drop i) := by
  conv => lhs; rw [← List.take_append_drop i h]
  unfold prodT; rw [List.foldl_append]; exact foldT _ _
 rw [e]; exact Nat.le_mul_of_pos_right _ (prodT_pos _)
theorem len_le (h : Hs) {i : Nat} (hi : i < h.length) : (h.getD i default).length + 1 ≤ prodT h := by
 have := prodT_le h (i + 1)
 rw [prodT_s h hi] at this
 exact Nat.le_trans (Nat.le_mul_of_pos_left _ (prodT_pos _)) this
theorem prodT_0 : ((prodT [] : Nat) : Int) = 1 := rfl
attribute [local go_sem] eHs eSet eNd
set_option maxRecDepth 100000 in
set_option maxHeartbeats 4000000 in
theorem kTotal (p : List UInt8) (d : List Nat) (h : Hs) (hp : prodT h ≤ 10000) (hl : h.length ≤ 1000000) : PCalls Try.prog 20 [eSet p d h] (.tup [.v (.int .u64 (prodT h : Nat)), .v (.bool true)]) := by
 refine pcalls_facts ⟨_, rfl, rfl, by decide⟩ fun hf => ?_
 simp only [go_sem, big] at hf
 refine pcalls_of (E := E) (fn := Try.f20) 30 [.tmp 2, .tmp 3] rfl rfl rfl rfl (by decide) rfl ?_
 repeat' (first
  | (with_reducible first | refine r_seq ?_ | refine r_block ?_ | refine fork_not ?_ | refine fork_and ?_ | refine fork_or ?_ | refine chk_ok (by kernel_rfl) ?_)
  | ((with_reducible first | refine fork_dec ?_ ?_ | refine fork_eq ?_ ?_ | refine fork_ne ?_ ?_ | refine fork_intro ?_ ?_) <;> intro h)
  | ((with_reducible show False); omega)
  | ((first | (with_reducible first | refine r_exit ?_ | refine r_skip ?_ | refine r_cond ?_ | refine r_region ?_ | refine r_ret ?_ | show VX _ _ _ _ _ _ _ | show vstep _ _ _ _ _ | show vskip _ _ _ | show withV _ _) | ((with_reducible show endA _ _ _ _ _ _ _); simp -implicitDefEqProofs only [endA]) | (with_reducible first | refine pick_viewG default (by first | omega | (simp only [LN]; omega)) (by first | omega | (simp only [LN]; omega)) ?_ | refine pick_own default (by first | omega | (simp only [LN]; omega)) ?_ | refine And.intro (by first | decide | omega | assumption | (simp only [LN]; omega)) ?_) | ((with_reducible show pickE _ _ _); first | refine pickE_intro _ ⟨by omega, by rfl⟩ ?_ | refine pickE_intro _ (by rfl) ?_) | fail); try simp -dsimp -implicitDefEqProofs (maxSteps := 1000000) (disch := first | omega | (simp only [LN]; omega)) only [go_sem])
  | fail)
 refine r_loopA (α := Nat) [10, 11] (fun i b => [(12, aI i), (4, .p (.v (.int .u64 (prodT (h.take i) : Nat))))]) (fun i b => []) (fun i => []) (fun i => i ≤ h.length) (fun i => h.length - i) (0) ?h0_1 ?hs0_1 ?I_1 ?hI_1 ?round_1
 case hI_1 => intro x; (simp -dsimp -implicitDefEqProofs (maxSteps := 1000000) (disch := first | omega | (simp only [LN]; omega)) only [go_sem]) <;> exact rfl
 case hs0_1 => refine wk_auto ?_; (simp -dsimp -implicitDefEqProofs (maxSteps := 1000000) (disch := first | omega | (simp only [LN, List.take_zero, prodT_0]; omega)) only [go_sem, List.take_zero, prodT_0]) <;> (try omega)
 case h0_1 => exact Nat.zero_le _
 case round_1 =>
  intro i hi
  have w3 : IntKind.i64.wrap ((i : Int) + 1) = ((i + 1 : Nat) : Int) := by rw [IntKind.wrap_i64]; push_cast; omega
  by_cases hi2 : i < h.length
  ·have hq := len_le h hi2
   have hs := prodT_s h hi2
   have hq2 := prodT_le h i
   generalize hxx : h.getD i default = x at *
   have km := pMul (prodT (h.take i)) (x.length + 1) (by omega) (by omega)
   have w4 : IntKind.u64.wrap (IntKind.u64.wrap (x.length : Int) + 1) = ((x.length + 1 : Nat) : Int) := by simp only [IntKind.wrap_u64]; omega
   repeat' (first
    | (with_reducible first | refine r_seq ?_ | refine r_block ?_ | refine fork_not ?_ | refine fork_and ?_ | refine fork_or ?_ | refine chk_ok (by kernel_rfl) ?_)
    | ((with_reducible first | refine fork_dec ?_ ?_ | refine fork_eq ?_ ?_ | refine fork_ne ?_ ?_ | refine fork_intro ?_ ?_) <;> intro h <;> try (exfalso; first | omega | exact h rfl | (revert h; decide) | (cases h; done)))
    | ((with_reducible show False); omega)
    | ((first | (with_reducible first | refine r_exit ?_ | refine r_skip ?_ | refine r_cond ?_ | refine r_region ?_ | refine r_ret ?_ | show VX _ _ _ _ _ _ _ | show vstep _ _ _ _ _ | show vskip _ _ _ | show withV _ _) | ((with_reducible show endA _ _ _ _ _ _ _); simp -implicitDefEqProofs only [endA]) | (with_reducible first | refine pick_viewG default (by first | omega | (simp only [LN, hxx, w3, w4]; omega)) (by first | omega | (simp only [LN, hxx, w3, w4]; omega)) ?_ | refine pick_own default (by first | omega | (simp only [LN, hxx, w3, w4]; omega)) ?_ | refine And.intro (by first | decide | omega | assumption | (simp only [LN, hxx, w3, w4]; omega)) ?_) | ((with_reducible apply callK_pure); (exact km)) | ((with_reducible apply callF_lend); (exact km); rfl) | ((with_reducible apply callF_go); (exact km)) | ((with_reducible show pickE _ _ _); first | refine pickE_intro _ ⟨by omega, by rfl⟩ ?_ | refine pickE_intro _ (by rfl) ?_) | fail); try simp -dsimp -implicitDefEqProofs (maxSteps := 1000000) (disch := first | omega | (simp only [LN, hxx, w3, w4]; omega)) only [go_sem, hxx, w3, w4])
    | fail)
   all_goals first | omega | ((refine loopQ_next (i + 1) ?_ ?_ ?_; (omega); (show _ < _; omega); (simp -dsimp -implicitDefEqProofs (maxSteps := 1000000) (disch := first | omega | (simp only [LN, hs, w3]; omega)) only [go_sem, hs, w3]; try trivial)))
  ·obtain rfl : i = h.length := by omega
   clear w3
   repeat' (first
    | (with_reducible first | refine r_seq ?_ | refine r_block ?_ | refine fork_not ?_ | refine fork_and ?_ | refine fork_or ?_ | refine chk_ok (by kernel_rfl) ?_)
    | ((with_reducible first | refine fork_dec ?_ ?_ | refine fork_eq ?_ ?_ | refine fork_ne ?_ ?_ | refine fork_intro ?_ ?_) <;> intro h <;> try (exfalso; first | omega | exact h rfl | (revert h; decide) | (cases h; done)))
    | ((with_reducible show False); omega)
    | ((first | (with_reducible first | refine r_exit ?_ | refine r_skip ?_ | refine r_cond ?_ | refine r_region ?_ | refine r_ret ?_ | show VX _ _ _ _ _ _ _ | show vstep _ _ _ _ _ | show vskip _ _ _ | show withV _ _) | ((with_reducible show endA _ _ _ _ _ _ _); simp -implicitDefEqProofs only [endA]) | (with_reducible first | refine pick_viewG default (by first | omega | (simp only [LN]; omega)) (by first | omega | (simp only [LN]; omega)) ?_ | refine pick_own default (by first | omega | (simp only [LN]; omega)) ?_ | refine And.intro (by first | decide | omega | assumption | (simp only [LN]; omega)) ?_) | ((with_reducible show pickE _ _ _); first | refine pickE_intro _ ⟨by omega, by rfl⟩ ?_ | refine pickE_intro _ (by rfl) ?_) | fail); try simp -dsimp -implicitDefEqProofs (maxSteps := 1000000) (disch := first | omega | (simp only [LN]; omega)) only [go_sem])
    | fail)
   all_goals first | omega | (simp; done)
def dgT : Hs → Nat → List Nat × Nat
 | [], i => ([], i)
 | l :: h, i => (((dgT h i).2 % (l.length + 1)) :: (dgT h i).1, (dgT h i).2 / (l.length + 1))
theorem dgT_len (h : Hs) (i : Nat) : (dgT h i).1.length = h.length := by
 induction h with
 | nil => rfl
 | cons l h ih => rw [dgT, List.length_cons, List.length_cons, ih]
theorem dgT_le (h : Hs) (i : Nat) : (dgT h i).2 ≤ i := by
 induction h with
 | nil => exact Nat.le_refl _
 | cons l h ih => rw [dgT]; exact Nat.le_trans (Nat.div_le_self _ _) ih
def dgA (h : Hs) (k i : Nat) : List Nat := List.replicate k 0 ++ (dgT (h.drop k) i).1
theorem dgA_len (h : Hs) (k i : Nat) (hk : k ≤ h.length) : (dgA h k i).length = h.length := by
 rw [dgA, List.length_append, List.length_replicate, dgT_len, List.length_drop]; omega
theorem dgT_s (h : Hs) {k : Nat} (hk : k < h.length) (i : Nat) : dgT (h.drop k) i = (((dgT (h.drop (k + 1)) i).2 % ((h.getD k default).length + 1)) :: (dgT (h.drop (k + 1)) i).1, (dgT (h.drop (k + 1)) i).2 / ((h.getD k default).length + 1)) := by
 rw [List.drop_eq_getElem_cons hk, dgT, List.getD_eq_getElem?_getD, List.getElem?_eq_getElem hk]; rfl
theorem dgA_s (h : Hs) {k : Nat} (hk : k < h.length) (i : Nat) : ((dgA h (k + 1) i).map eNd).set k (.v (.int .i64 (((dgT (h.drop (k + 1)) i).2 % ((h.getD k default).length + 1) : Nat) : Int))) = (dgA h k i).map eNd := by
 rw [show (PV.v (.int .i64 (((dgT (h.drop (k + 1)) i).2 % ((h.getD k default).length + 1) : Nat) : Int))) = eNd ((dgT (h.drop (k + 1)) i).2 % ((h.getD k default).length + 1)) from rfl, ← List.map_set]
 congr 1
 rw [dgA, dgA, dgT_s h hk, List.replicate_succ', List.append_assoc, List.set_append_right _ _ (by rw [List.length_replicate]; omega), List.length_replicate, Nat.sub_self]
 rfl
theorem dec0 (n : Nat) : ((n : Int) == 0) = decide (n = 0) := by cases n <;> rfl
theorem dgA_0 (h : Hs) (i : Nat) : dgA h 0 i = (dgT h i).1 := rfl
theorem dgA_n (h : Hs) (i : Nat) : (dgA h h.length i).map eNd = List.replicate h.length (PV.v (.int .i64 0)) := by
 rw [dgA, List.drop_length, show (dgT [] i).1 = [] from rfl, List.append_nil, List.map_replicate]; rfl
theorem dgT_n (h : Hs) (i : Nat) : dgT (h.drop h.length) i = ([], i) := by rw [List.drop_length]; rfl
set_option maxRecDepth 100000 in
set_option maxHeartbeats 4000000 in
theorem kSplit (p : List UInt8) (d : List Nat) (h : Hs) (i : Nat) (hi : i ≤ 1000000) (hd : d.length = h.length) (hl : h.length ≤ 1000000) (hp : prodT h ≤ 10000) : PCalls Try.prog 21 [eSet p d h, .v (.int .u64 i)] (.tup [.view 1 ((dgT h i).1.map eNd), .v (.bool (decide ((dgT h i).2 = 0)))]) := by
 refine pcalls_facts ⟨_, rfl, rfl, by decide⟩ fun hf => ?_
 simp only [go_sem, big] at hf
 refine pcalls_of (E := E) (fn := Try.f21) 41 [.tmp 4, .tmp 5] rfl rfl rfl rfl (by decide) rfl ?_
 have w1 : IntKind.i64.wrap ((d.length : Int) - 1) = (h.length : Int) - 1 := by rw [IntKind.wrap_i64]; omega
 repeat' (first
  | (with_reducible first | refine r_seq ?_ | refine r_block ?_ | refine fork_not ?_ | refine fork_and ?_ | refine fork_or ?_ | refine chk_ok (by kernel_rfl) ?_)
  | ((with_reducible first | refine fork_dec ?_ ?_ | refine fork_eq ?_ ?_ | refine fork_ne ?_ ?_ | refine fork_intro ?_ ?_) <;> intro h)
  | ((with_reducible show False); omega)
  | ((first | (with_reducible first | refine r_exit ?_ | refine r_skip ?_ | refine r_cond ?_ | refine r_region ?_ | refine r_ret ?_ | show VX _ _ _ _ _ _ _ | show vstep _ _ _ _ _ | show vskip _ _ _ | show withV _ _) | ((with_reducible show endA _ _ _ _ _ _ _); simp -implicitDefEqProofs only [endA]) | (with_reducible first | refine pick_viewG default (by first | omega | (simp only [LN, w1]; omega)) (by first | omega | (simp only [LN, w1]; omega)) ?_ | refine pick_own default (by first | omega | (simp only [LN, w1]; omega)) ?_ | refine And.intro (by first | decide | omega | assumption | (simp only [LN, w1]; omega)) ?_) | ((with_reducible show pickE _ _ _); first | refine pickE_intro _ ⟨by omega, by rfl⟩ ?_ | refine pickE_intro _ (by rfl) ?_) | fail); try simp -dsimp -implicitDefEqProofs (maxSteps := 1000000) (disch := first | omega | (simp only [LN, w1]; omega)) only [go_sem, w1])
  | fail)
 refine r_loopA (α := Nat) [2, 6] (fun k b => [(7, .p (.v (.int .i64 ((k : Int) - 1)))), (1, .p (.v (.int .u64 ((dgT (h.drop k) i).2 : Nat))))]) (fun k b => [(6, .arr 1 ((dgA h k i).map eNd))]) (fun k => []) (fun k => k ≤ h.length) (fun k => k) (h.length) ?h0_2 ?hs0_2 ?I_2 ?hI_2 ?round_2
 case hI_2 => intro x; (simp -dsimp -implicitDefEqProofs (maxSteps := 1000000) (disch := first | omega | (simp only [LN]; omega)) only [go_sem]) <;> exact rfl
 case hs0_2 => refine wk_auto ?_; (simp -dsimp -implicitDefEqProofs (maxSteps := 1000000) (disch := first | omega | (simp only [LN, hd, dgA_n, dgT_n]; omega)) only [go_sem, hd, dgA_n, dgT_n]) <;> (try omega)
 case h0_2 => exact Nat.le_refl _
 case round_2 =>
  intro k hk
  rcases k with _ | k
  ·have hal := dgT_len h i
   repeat' (first
    | (with_reducible first | refine r_seq ?_ | refine r_block ?_ | refine fork_not ?_ | refine fork_and ?_ | refine fork_or ?_ | refine chk_ok (by kernel_rfl) ?_)
    | ((with_reducible first | refine fork_dec ?_ ?_ | refine fork_eq ?_ ?_ | refine fork_ne ?_ ?_ | refine fork_intro ?_ ?_) <;> intro h <;> try (exfalso; first | omega | exact h rfl | (revert h; decide) | (cases h; done)))
    | ((with_reducible show False); omega)
    | ((first | (with_reducible first | refine r_exit ?_ | refine r_skip ?_ | refine r_cond ?_ | refine r_region ?_ | refine r_ret ?_ | show VX _ _ _ _ _ _ _ | show vstep _ _ _ _ _ | show vskip _ _ _ | show withV _ _) | ((with_reducible show endA _ _ _ _ _ _ _); simp -implicitDefEqProofs only [endA]) | (with_reducible first | refine pick_viewG default (by first | omega | (simp only [LN, dgA_0, hd, hal, dec0]; omega)) (by first | omega | (simp only [LN, dgA_0, hd, hal, dec0]; omega)) ?_ | refine pick_own default (by first | omega | (simp only [LN, dgA_0, hd, hal, dec0]; omega)) ?_ | refine And.intro (by first | decide | omega | assumption | (simp only [LN, dgA_0, hd, hal, dec0]; omega)) ?_) | ((with_reducible show pickE _ _ _); first | refine pickE_intro _ ⟨by omega, by rfl⟩ ?_ | refine pickE_intro _ (by rfl) ?_) | fail); try simp -dsimp -implicitDefEqProofs (maxSteps := 1000000) (disch := first | omega | (simp only [LN, dgA_0, hd, hal, dec0]; omega)) only [go_sem, dgA_0, hd, hal, dec0])
    | fail)
   all_goals first | omega | (simp; done)
  ·have hk2 : k < h.length := hk
   have hq := len_le h hk2
   have hs := dgT_s h hk2 i
   have ha := dgA_s h hk2 i
   have hr := dgT_le (h.drop (k + 1)) i
   have hal := dgA_len h (k + 1) i hk
   generalize hxx : h.getD k default = x at *
   generalize hrr : (dgT (h.drop (k + 1)) i).2 = r at *
   have w4 : IntKind.u64.wrap (IntKind.u64.wrap (x.length : Int) + 1) = ((x.length + 1 : Nat) : Int) := by simp only [IntKind.wrap_u64]; omega
   have w5 : ((k + 1 : Nat) : Int) - 1 = k := by omega
   have m1 : r % (x.length + 1) < x.length + 1 := Nat.mod_lt r (Nat.succ_pos x.length)
   have m2 := Nat.div_le_self r (x.length + 1)
   have w6 : IntKind.u64.wrap ((r : Int).tmod ((x.length + 1 : Nat) : Int)) = ((r % (x.length + 1) : Nat) : Int) := by
    rw [show (r : Int).tmod ((x.length + 1 : Nat) : Int) = ((r % (x.length + 1) : Nat) : Int) from rfl, wr64]
    generalize r % (x.length + 1) = y at *; omega
   have w7 : IntKind.u64.wrap ((r : Int).tdiv ((x.length + 1 : Nat) : Int)) = ((r / (x.length + 1) : Nat) : Int) := by
    rw [show (r : Int).tdiv ((x.length + 1 : Nat) : Int) = ((r / (x.length + 1) : Nat) : Int) from rfl, wr64]
    generalize r / (x.length + 1) = y at *; omega
   have w8 : IntKind.i64.wrap ((r % (x.length + 1) : Nat) : Int) = ((r % (x.length + 1) : Nat) : Int) := by
    generalize r % (x.length + 1) = y at *; exact i64w (by omega) (by omega)
   have w8b : IntKind.i64.wrap ((r : Int).tmod ((x.length : Int) + 1)) = ((r % (x.length + 1) : Nat) : Int) := w8
   generalize r % (x.length + 1) = rm at *
   generalize r / (x.length + 1) = rd at *
   have v6 : IntKind.u64.wrap ((r : Int).tmod ((x.length : Int) + 1)) = (rm : Int) := w6
   have v7 : IntKind.u64.wrap ((r : Int).tdiv ((x.length : Int) + 1)) = (rd : Int) := w7
   have w9 : IntKind.i64.wrap ((k : Int) - 1) = (k : Int) - 1 := i64w (by omega) (by omega)
   repeat' (first
    | (with_reducible first | refine r_seq ?_ | refine r_block ?_ | refine fork_not ?_ | refine fork_and ?_ | refine fork_or ?_ | refine chk_ok (by kernel_rfl) ?_)
    | ((with_reducible first | refine fork_dec ?_ ?_ | refine fork_eq ?_ ?_ | refine fork_ne ?_ ?_ | refine fork_intro ?_ ?_) <;> intro h <;> try (exfalso; first | omega | exact h rfl | (revert h; decide) | (cases h; done)))
    | ((with_reducible show False); omega)
    | ((first | (with_reducible first | refine r_exit ?_ | refine r_skip ?_ | refine r_cond ?_ | refine r_region ?_ | refine r_ret ?_ | show VX _ _ _ _ _ _ _ | show vstep _ _ _ _ _ | show vskip _ _ _ | show withV _ _) | ((with_reducible show endA _ _ _ _ _ _ _); simp -implicitDefEqProofs only [endA]) | (with_reducible first | refine pick_viewG default (by first | omega | (simp only [LN, hxx, w4, w5, w6, w7, w8, w9, hal]; omega)) (by first | omega | (simp only [LN, hxx, w4, w5, w6, w7, w8, w9, hal]; omega)) ?_ | refine pick_own default (by first | omega | (simp only [LN, hxx, w4, w5, w6, w7, w8, w9, hal]; omega)) ?_ | refine And.intro (by first | decide | omega | assumption | (simp only [LN, hxx, w4, w5, w6, w7, w8, w9, hal]; omega)) ?_) | ((with_reducible show pickE _ _ _); first | refine pickE_intro _ ⟨by omega, by rfl⟩ ?_ | refine pickE_intro _ (by rfl) ?_) | fail); try simp -dsimp -implicitDefEqProofs (maxSteps := 1000000) (disch := first | omega | (simp only [LN, hxx, w4, w5, w6, w7, w8, w9, hal]; omega)) only [go_sem, hxx, w4, w5, w6, w7, w8, w9, hal])
    | fail)
   all_goals first | omega | ((refine loopQ_next (k) ?_ ?_ ?_; (omega); (show _ < _; omega); (simp -dsimp -implicitDefEqProofs (maxSteps := 1000000) (disch := first | omega | (simp only [LN, v6, v7, w8, w8b, hs, ha, w9]; omega)) only [go_sem, v6, v7, w8, w8b, hs, ha, w9]; try trivial)))
end Go.Proofs.Ytlldhofcdfejnaa