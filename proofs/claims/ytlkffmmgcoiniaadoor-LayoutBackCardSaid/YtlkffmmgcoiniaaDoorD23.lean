/- Contracts of functions of this program, and the plain facts that they rest on. No conditions. -/
import Derived.Test.YtlkffmmgcoiniaaDoorD22
set_option linter.unusedSimpArgs false
set_option linter.unusedVariables false
namespace Go.Proofs.YtlkffmmgcoiniaaDoor
open Go Go.Ab
attribute [local irreducible] callK callF loopQ vstep vskip pickE hideP
set_option maxRecDepth 100000
attribute [local go_sem] eF rF eS eP eX rX eQ eL eN eW
/-- The first error of a row of errors. -/
def firstE (e : Nat → Int) : Nat → Int
  | 0 => 0
  | n + 1 => if firstE e n = 0 then e n else firstE e n
theorem firstE_zero {e : Nat → Int} : ∀ {n : Nat}, (∀ k, k < n → e k = 0) → firstE e n = 0
  | 0, _ => rfl
  | n + 1, h => by rw [firstE, if_pos (firstE_zero fun k hk => h k (by omega))]; exact h n (by omega)
theorem firstE_at {e : Nat → Int} {i : Nat} (h : ∀ k, k < i → e k = 0) (he : e i ≠ 0) : ∀ {n : Nat}, i < n → firstE e n = e i
  | 0, hn => absurd hn (by omega)
  | n + 1, hn => by
    rw [firstE]
    rcases Nat.lt_or_ge i n with h3 | h3
    · rw [firstE_at h he h3, if_neg he]
    · obtain rfl : i = n := by omega
      rw [if_pos (firstE_zero h)]
theorem firstE_inv {e : Nat → Int} : ∀ {n : Nat}, firstE e n = 0 → ∀ k, k < n → e k = 0
  | 0, _, k, hk => absurd hk (by omega)
  | n + 1, h, k, hk => by
    rw [firstE] at h
    by_cases h0 : firstE e n = 0
    · rw [if_pos h0] at h
      rcases Nat.lt_or_ge k n with h3 | h3
      · exact firstE_inv h0 k h3
      · obtain rfl : k = n := by omega
        exact h
    · rw [if_neg h0] at h; exact absurd h h0
def anyB (b : Nat → Bool) : Nat → Bool
  | 0 => false
  | n + 1 => anyB b n || b n
theorem anyB_t {b : Nat → Bool} {k : Nat} (h : b k = true) : ∀ {n : Nat}, k < n → anyB b n = true
  | 0, hn => absurd hn (by omega)
  | n + 1, hn => by
    rw [anyB]
    rcases Nat.lt_or_ge k n with h3 | h3
    · rw [anyB_t h h3]; rfl
    · obtain rfl : k = n := by omega
      rw [h, Bool.or_true]
theorem anyB_f {b : Nat → Bool} : ∀ {n : Nat}, (∀ k, k < n → b k = false) → anyB b n = false
  | 0, _ => rfl
  | n + 1, h => by rw [anyB, anyB_f fun k hk => h k (by omega), h n (by omega)]; rfl
theorem anyB_inv {b : Nat → Bool} : ∀ {n : Nat}, anyB b n = false → ∀ k, k < n → b k = false
  | 0, _, k, hk => absurd hk (by omega)
  | n + 1, h, k, hk => by
    rw [anyB, Bool.or_eq_false_iff] at h
    rcases Nat.lt_or_ge k n with h3 | h3
    · exact anyB_inv h.1 k h3
    · obtain rfl : k = n := by omega
      exact h.2
/-- Whether a value of one type is none of another. -/
def badV (v : Nat) (a b : Int) : Bool := (decide (9223372036854775808 ≤ v) && (decide (a = 2) != decide (b = 2))) || decide (2 ^ wN b ≤ v)
def badK (x y : X) (ws : List Nat) (f g k : Nat) : Bool := if (y.fs.getD f default).cnt ≤ k then decide (getE x ws g k ≠ 0) else badV (getE x ws g k) (x.fs.getD g default).ty (y.fs.getD f default).ty
def errG (x y : X) (ws : List Nat) (f g : Nat) : Int :=
  if (decide ((x.fs.getD g default).ty = 7) != decide ((y.fs.getD f default).ty = 7)) = true then 16
  else if anyB (badK x y ws f g) (x.fs.getD g default).cnt.toNat = true then 2 else 0
def errC (x y : X) (ws : List Nat) (f : Nat) : Int := match fnd x (y.fs.getD f default).nm with
  | none => 0
  | some g => errG x y ws f g
def cvK (x y : X) (ws : List Nat) (f g : Nat) (out : List Nat) : Nat → List Nat
  | 0 => out
  | k + 1 => if (y.fs.getD f default).cnt ≤ k then cvK x y ws f g out k else putE y (cvK x y ws f g out k) f k (getE x ws g k)
def cvF (x y : X) (ws : List Nat) : Nat → List Nat
  | 0 => List.replicate (wordsM y) 0
  | f + 1 => match fnd x (y.fs.getD f default).nm with
    | none => cvF x y ws f
    | some g => cvK x y ws f g (cvF x y ws f) (x.fs.getD g default).cnt.toNat
/-- What Convert returns. -/
def convR (x y : X) (ws : List Nat) : List Nat × Int :=
  if ws.length ≠ wordsM x then ([], 1) else if firstE (errC x y ws) y.fs.length = 0 then (cvF x y ws y.fs.length, 0) else ([], firstE (errC x y ws) y.fs.length)
theorem convR_1 {x y : X} {ws : List Nat} (h : ¬ ws.length = wordsM x) : convR x y ws = ([], 1) := if_pos h
theorem convR_e {x y : X} {ws : List Nat} (h : ws.length = wordsM x) {f : Nat} (hf : f < y.fs.length) (h0 : ∀ k, k < f → errC x y ws k = 0) (he : errC x y ws f ≠ 0) : convR x y ws = ([], errC x y ws f) := by
  unfold convR
  rw [if_neg (by simpa using h), firstE_at h0 he hf, if_neg he]
theorem convR_0 {x y : X} {ws : List Nat} (h : ws.length = wordsM x) (h0 : ∀ k, k < y.fs.length → errC x y ws k = 0) : convR x y ws = (cvF x y ws y.fs.length, 0) := by
  unfold convR
  rw [if_neg (by simpa using h), if_pos (firstE_zero h0)]
theorem errC_n {x y : X} {ws : List Nat} {f : Nat} (h : fnd x (y.fs.getD f default).nm = none) : errC x y ws f = 0 := by unfold errC; rw [h]
theorem errC_s {x y : X} {ws : List Nat} {f g : Nat} (h : fnd x (y.fs.getD f default).nm = some g) : errC x y ws f = errG x y ws f g := by unfold errC; rw [h]
theorem errG_16 {x y : X} {ws : List Nat} {f g : Nat} (h : ¬ ((x.fs.getD g default).ty = 7 ↔ (y.fs.getD f default).ty = 7)) : errG x y ws f g = 16 := by
  unfold errG; rw [if_pos (by
    by_cases h1 : (x.fs.getD g default).ty = 7
    · by_cases h2 : (y.fs.getD f default).ty = 7
      · exact absurd ⟨fun _ => h2, fun _ => h1⟩ h
      · rw [decide_eq_true h1, decide_eq_false h2]; rfl
    · by_cases h2 : (y.fs.getD f default).ty = 7
      · rw [decide_eq_false h1, decide_eq_true h2]; rfl
      · exact absurd ⟨fun h => absurd h h1, fun h => absurd h h2⟩ h)]
theorem ty7_same {a b : Int} (h : (a = 7 ↔ b = 7)) : (decide (a = 7) != decide (b = 7)) = false := by
  by_cases hb : b = 7
  · rw [decide_eq_true hb, decide_eq_true (h.2 hb)]; rfl
  · rw [decide_eq_false hb, decide_eq_false (fun ha => hb (h.1 ha))]; rfl
theorem errG_2 {x y : X} {ws : List Nat} {f g k : Nat} (h : ((x.fs.getD g default).ty = 7 ↔ (y.fs.getD f default).ty = 7)) (hk : (k : Int) < (x.fs.getD g default).cnt) (hb : badK x y ws f g k = true) : errG x y ws f g = 2 := by
  unfold errG; rw [if_neg (by rw [ty7_same h]; simp), if_pos (anyB_t hb (by omega))]
theorem errG_0 {x y : X} {ws : List Nat} {f g : Nat} (h : ((x.fs.getD g default).ty = 7 ↔ (y.fs.getD f default).ty = 7)) (hb : ∀ k, k < (x.fs.getD g default).cnt.toNat → badK x y ws f g k = false) : errG x y ws f g = 0 := by
  unfold errG; rw [if_neg (by rw [ty7_same h]; simp), if_neg (by rw [anyB_f hb]; simp)]
theorem badK_ge {x y : X} {ws : List Nat} {f g k : Nat} (h : (y.fs.getD f default).cnt ≤ k) : badK x y ws f g k = decide (getE x ws g k ≠ 0) := if_pos h
theorem badK_lt {x y : X} {ws : List Nat} {f g k : Nat} (h : ¬ (y.fs.getD f default).cnt ≤ k) : badK x y ws f g k = badV (getE x ws g k) (x.fs.getD g default).ty (y.fs.getD f default).ty := if_neg h
theorem cvK_ge {x y : X} {ws out : List Nat} {f g k : Nat} (h : (y.fs.getD f default).cnt ≤ k) : cvK x y ws f g out (k + 1) = cvK x y ws f g out k := if_pos h
theorem cvK_lt {x y : X} {ws out : List Nat} {f g k : Nat} (h : ¬ (y.fs.getD f default).cnt ≤ k) : cvK x y ws f g out (k + 1) = putE y (cvK x y ws f g out k) f k (getE x ws g k) := if_neg h
theorem cvK_0 (x y : X) (ws out : List Nat) (f g : Nat) : cvK x y ws f g out 0 = out := rfl
theorem cvF_n {x y : X} {ws : List Nat} {f : Nat} (h : fnd x (y.fs.getD f default).nm = none) : cvF x y ws (f + 1) = cvF x y ws f := by rw [cvF, h]
theorem cvF_s {x y : X} {ws : List Nat} {f g : Nat} (h : fnd x (y.fs.getD f default).nm = some g) : cvF x y ws (f + 1) = cvK x y ws f g (cvF x y ws f) (x.fs.getD g default).cnt.toNat := by rw [cvF, h]
theorem cvK_ok (x y : X) (ws : List Nat) (f g : Nat) {out : List Nat} (hl : out.length = wordsM y) (hu : U64 out) : ∀ k, (cvK x y ws f g out k).length = wordsM y ∧ U64 (cvK x y ws f g out k)
  | 0 => ⟨hl, hu⟩
  | k + 1 => by
    have ih := cvK_ok x y ws f g hl hu k
    by_cases h : (y.fs.getD f default).cnt ≤ k
    · rw [cvK_ge h]; exact ih
    · rw [cvK_lt h]; exact ⟨by rw [putE_len]; exact ih.1, putE_u ih.2 _ _ _⟩
theorem zero_u (n : Nat) : U64 (List.replicate n 0) := by
  intro i
  rw [List.getD_eq_getElem?_getD, List.getElem?_replicate]; split <;> (show (_ : Nat) < _; decide)
theorem cvF_ok (x y : X) (ws : List Nat) : ∀ f, (cvF x y ws f).length = wordsM y ∧ U64 (cvF x y ws f)
  | 0 => ⟨by simp [cvF], zero_u _⟩
  | f + 1 => by
    have ih := cvF_ok x y ws f
    cases h : fnd x (y.fs.getD f default).nm with
    | none => rw [cvF_n h]; exact ih
    | some g => rw [cvF_s h]; exact cvK_ok x y ws f g ih.1 ih.2 _
theorem cvF_0 (x y : X) (ws : List Nat) : (cvF x y ws 0).map eW = List.replicate (wordsM y) (.v (.int .u64 0)) := map_rep _
theorem wN_64 {b : Int} (h : b = 2) : wN b = 64 := by subst h; rfl
theorem badV_2 {v : Nat} (hv : v < 18446744073709551616) {a b : Int} (ha : a = 2) (hb : b = 2) : badV v a b = false := by
  unfold badV
  rw [decide_eq_true ha, decide_eq_true hb, wN_64 hb, decide_eq_false (show ¬ 2 ^ 64 ≤ v by omega)]; simp
theorem badV_1 {v : Nat} (hv : 9223372036854775808 ≤ v) {a b : Int} (h : (a = 2 ∧ ¬ b = 2) ∨ (¬ a = 2 ∧ b = 2)) : badV v a b = true := by
  unfold badV
  rcases h with ⟨h1, h2⟩ | ⟨h1, h2⟩
  · rw [decide_eq_true h1, decide_eq_false h2, decide_eq_true hv]; rfl
  · rw [decide_eq_false h1, decide_eq_true h2, decide_eq_true hv]; rfl
theorem badV_0 {v : Nat} {a b : Int} (h : (¬ a = 2 ∧ ¬ b = 2) ∨ v < 9223372036854775808) : badV v a b = decide (2 ^ wN b ≤ v) := by
  unfold badV
  rcases h with ⟨h1, h2⟩ | h1
  · rw [decide_eq_false h1, decide_eq_false h2]; simp
  · rw [decide_eq_false (show ¬ 9223372036854775808 ≤ v by omega)]; simp
attribute [local irreducible] slotAt posE wdE wordsM getB setB mskN plAt getR setR putE getE badV
set_option maxRecDepth 100000 in
set_option maxHeartbeats 4000000 in
theorem c43 (v : Nat) (hv : v < 18446744073709551616) (a b : Int) (ha : 0 ≤ a ∧ a < 256) (hb : 1 ≤ b ∧ b ≤ 7) : PCalls Tryd.prog 43 [.v (.int .u64 v), .v (.int .u8 a), .v (.int .u8 b)] (.v (.bool (!badV v a b))) := by
  refine pcalls_of (E := E) (fn := Tryd.f43) 29 [.tmp 6] rfl rfl rfl rfl (by decide) rfl ?_
  have cw := c36 b (by omega)
  rw [wT_pos hb] at cw
  have hwk := wok_1 (wok b)
  have cf := c48 v 0 (wN b) hv (wok b) (by omega)
  by_cases h1 : a = 2
  · by_cases h2 : b = 2
    · have e := badV_2 hv h1 h2
      repeat' (first
        | (with_reducible first | refine r_seq ?_ | refine r_block ?_ | refine fork_not ?_ | refine fork_and ?_ | refine fork_or ?_ | refine chk_ok (by kernel_rfl) ?_)
        | ((with_reducible first | refine fork_dec ?_ ?_ | refine fork_eq ?_ ?_ | refine fork_ne ?_ ?_ | refine fork_intro ?_ ?_) <;> intro h <;> try (exfalso; first | omega | exact h rfl | (revert h; decide) | (cases h; done)))
        | ((with_reducible show False); omega)
        | ((first | (with_reducible first | refine r_exit ?_ | refine r_skip ?_ | refine r_cond ?_ | refine r_region ?_ | show VX _ _ _ _ _ _ _ | show vstep _ _ _ _ _ | show vskip _ _ _ | show withV _ _) | ((with_reducible show endA _ _ _ _ _ _ _); simp -implicitDefEqProofs only [endA])); simp -dsimp -implicitDefEqProofs (maxSteps := 1000000) (disch := first | omega | (simp only [LN, e]; omega)) only [go_sem, Int.reduceToNat, Int.reducePow, Nat.reducePow, Int.reduceAdd, Int.reduceMul, Int.reduceSub, Int.reduceNeg, Nat.reduceAdd, Nat.reduceMul, Nat.reduceSub, Nat.reduceEqDiff, Nat.reduceLT, Nat.reduceLeDiff, e])
        | ((first | (with_reducible refine r_ret ?_) | (with_reducible refine pick_viewG default (by first | omega | (simp only [LN, e]; omega)) (by first | omega | (simp only [LN, e]; omega)) ?_) | (with_reducible refine pick_own default (by first | omega | (simp only [LN, e]; omega)) ?_) | (with_reducible refine And.intro (by first | decide | omega | assumption | (simp only [LN, e]; omega)) ?_) | ((with_reducible apply callK_pure); (first | exact cw | exact cf | fail)) | ((with_reducible apply callF_lend); (first | exact cw | exact cf | fail); rfl) | ((with_reducible apply callF_go); (first | exact cw | exact cf | fail)) | ((with_reducible show pickE _ _ _); first | refine pickE_intro _ ⟨by omega, by rfl⟩ ?_ | refine pickE_intro _ (by rfl) ?_) | fail); try simp -dsimp -implicitDefEqProofs (maxSteps := 1000000) (disch := first | omega | (simp only [LN, e]; omega)) only [go_sem, Int.reduceToNat, Int.reducePow, Nat.reducePow, Int.reduceAdd, Int.reduceMul, Int.reduceSub, Int.reduceNeg, Nat.reduceAdd, Nat.reduceMul, Nat.reduceSub, Nat.reduceEqDiff, Nat.reduceLT, Nat.reduceLeDiff, e])
        | fail)
      all_goals first | rfl | omega | trace_state
    · by_cases h3 : 9223372036854775808 ≤ v
      · have e := badV_1 h3 (.inl ⟨h1, h2⟩)
        repeat' (first
          | (with_reducible first | refine r_seq ?_ | refine r_block ?_ | refine fork_not ?_ | refine fork_and ?_ | refine fork_or ?_ | refine chk_ok (by kernel_rfl) ?_)
          | ((with_reducible first | refine fork_dec ?_ ?_ | refine fork_eq ?_ ?_ | refine fork_ne ?_ ?_ | refine fork_intro ?_ ?_) <;> intro h <;> try (exfalso; first | omega | exact h rfl | (revert h; decide) | (cases h; done)))
          | ((with_reducible show False); omega)
          | ((first | (with_reducible first | refine r_exit ?_ | refine r_skip ?_ | refine r_cond ?_ | refine r_region ?_ | show VX _ _ _ _ _ _ _ | show vstep _ _ _ _ _ | show vskip _ _ _ | show withV _ _) | ((with_reducible show endA _ _ _ _ _ _ _); simp -implicitDefEqProofs only [endA])); simp -dsimp -implicitDefEqProofs (maxSteps := 1000000) (disch := first | omega | (simp only [LN, e]; omega)) only [go_sem, Int.reduceToNat, Int.reducePow, Nat.reducePow, Int.reduceAdd, Int.reduceMul, Int.reduceSub, Int.reduceNeg, Nat.reduceAdd, Nat.reduceMul, Nat.reduceSub, Nat.reduceEqDiff, Nat.reduceLT, Nat.reduceLeDiff, e])
          | ((first | (with_reducible refine r_ret ?_) | (with_reducible refine pick_viewG default (by first | omega | (simp only [LN, e]; omega)) (by first | omega | (simp only [LN, e]; omega)) ?_) | (with_reducible refine pick_own default (by first | omega | (simp only [LN, e]; omega)) ?_) | (with_reducible refine And.intro (by first | decide | omega | assumption | (simp only [LN, e]; omega)) ?_) | ((with_reducible apply callK_pure); (first | exact cw | exact cf | fail)) | ((with_reducible apply callF_lend); (first | exact cw | exact cf | fail); rfl) | ((with_reducible apply callF_go); (first | exact cw | exact cf | fail)) | ((with_reducible show pickE _ _ _); first | refine pickE_intro _ ⟨by omega, by rfl⟩ ?_ | refine pickE_intro _ (by rfl) ?_) | fail); try simp -dsimp -implicitDefEqProofs (maxSteps := 1000000) (disch := first | omega | (simp only [LN, e]; omega)) only [go_sem, Int.reduceToNat, Int.reducePow, Nat.reducePow, Int.reduceAdd, Int.reduceMul, Int.reduceSub, Int.reduceNeg, Nat.reduceAdd, Nat.reduceMul, Nat.reduceSub, Nat.reduceEqDiff, Nat.reduceLT, Nat.reduceLeDiff, e])
          | fail)
        all_goals first | rfl | omega | trace_state
      · have e := badV_0 (v := v) (a := a) (b := b) (.inr (by omega))
        repeat' (first
          | (with_reducible first | refine r_seq ?_ | refine r_block ?_ | refine fork_not ?_ | refine fork_and ?_ | refine fork_or ?_ | refine chk_ok (by kernel_rfl) ?_)
          | ((with_reducible first | refine fork_dec ?_ ?_ | refine fork_eq ?_ ?_ | refine fork_ne ?_ ?_ | refine fork_intro ?_ ?_) <;> intro h <;> try (exfalso; first | omega | exact h rfl | (revert h; decide) | (cases h; done)))
          | ((with_reducible show False); omega)
          | ((first | (with_reducible first | refine r_exit ?_ | refine r_skip ?_ | refine r_cond ?_ | refine r_region ?_ | show VX _ _ _ _ _ _ _ | show vstep _ _ _ _ _ | show vskip _ _ _ | show withV _ _) | ((with_reducible show endA _ _ _ _ _ _ _); simp -implicitDefEqProofs only [endA])); simp -dsimp -implicitDefEqProofs (maxSteps := 1000000) (disch := first | omega | (simp only [LN, e]; omega)) only [go_sem, Int.reduceToNat, Int.reducePow, Nat.reducePow, Int.reduceAdd, Int.reduceMul, Int.reduceSub, Int.reduceNeg, Nat.reduceAdd, Nat.reduceMul, Nat.reduceSub, Nat.reduceEqDiff, Nat.reduceLT, Nat.reduceLeDiff, e])
          | ((first | (with_reducible refine r_ret ?_) | (with_reducible refine pick_viewG default (by first | omega | (simp only [LN, e]; omega)) (by first | omega | (simp only [LN, e]; omega)) ?_) | (with_reducible refine pick_own default (by first | omega | (simp only [LN, e]; omega)) ?_) | (with_reducible refine And.intro (by first | decide | omega | assumption | (simp only [LN, e]; omega)) ?_) | ((with_reducible apply callK_pure); (first | exact cw | exact cf | fail)) | ((with_reducible apply callF_lend); (first | exact cw | exact cf | fail); rfl) | ((with_reducible apply callF_go); (first | exact cw | exact cf | fail)) | ((with_reducible show pickE _ _ _); first | refine pickE_intro _ ⟨by omega, by rfl⟩ ?_ | refine pickE_intro _ (by rfl) ?_) | fail); try simp -dsimp -implicitDefEqProofs (maxSteps := 1000000) (disch := first | omega | (simp only [LN, e]; omega)) only [go_sem, Int.reduceToNat, Int.reducePow, Nat.reducePow, Int.reduceAdd, Int.reduceMul, Int.reduceSub, Int.reduceNeg, Nat.reduceAdd, Nat.reduceMul, Nat.reduceSub, Nat.reduceEqDiff, Nat.reduceLT, Nat.reduceLeDiff, e])
          | fail)
        all_goals try omega
        all_goals
          by_cases h4 : 2 ^ wN b ≤ v
          · have := getB_lt v 0 (wN b)
            simp only [decide_eq_true h4, decide_eq_true_iff, Value.bool.injEq, Bool.not_true]
            exact decide_eq_false (by omega)
          · rw [getB_0 (by omega)]; simp [h4]
  · by_cases h2 : b = 2
    · by_cases h3 : 9223372036854775808 ≤ v
      · have e := badV_1 h3 (.inr ⟨h1, h2⟩)
        repeat' (first
          | (with_reducible first | refine r_seq ?_ | refine r_block ?_ | refine fork_not ?_ | refine fork_and ?_ | refine fork_or ?_ | refine chk_ok (by kernel_rfl) ?_)
          | ((with_reducible first | refine fork_dec ?_ ?_ | refine fork_eq ?_ ?_ | refine fork_ne ?_ ?_ | refine fork_intro ?_ ?_) <;> intro h <;> try (exfalso; first | omega | exact h rfl | (revert h; decide) | (cases h; done)))
          | ((with_reducible show False); omega)
          | ((first | (with_reducible first | refine r_exit ?_ | refine r_skip ?_ | refine r_cond ?_ | refine r_region ?_ | show VX _ _ _ _ _ _ _ | show vstep _ _ _ _ _ | show vskip _ _ _ | show withV _ _) | ((with_reducible show endA _ _ _ _ _ _ _); simp -implicitDefEqProofs only [endA])); simp -dsimp -implicitDefEqProofs (maxSteps := 1000000) (disch := first | omega | (simp only [LN, e]; omega)) only [go_sem, Int.reduceToNat, Int.reducePow, Nat.reducePow, Int.reduceAdd, Int.reduceMul, Int.reduceSub, Int.reduceNeg, Nat.reduceAdd, Nat.reduceMul, Nat.reduceSub, Nat.reduceEqDiff, Nat.reduceLT, Nat.reduceLeDiff, e])
          | ((first | (with_reducible refine r_ret ?_) | (with_reducible refine pick_viewG default (by first | omega | (simp only [LN, e]; omega)) (by first | omega | (simp only [LN, e]; omega)) ?_) | (with_reducible refine pick_own default (by first | omega | (simp only [LN, e]; omega)) ?_) | (with_reducible refine And.intro (by first | decide | omega | assumption | (simp only [LN, e]; omega)) ?_) | ((with_reducible apply callK_pure); (first | exact cw | exact cf | fail)) | ((with_reducible apply callF_lend); (first | exact cw | exact cf | fail); rfl) | ((with_reducible apply callF_go); (first | exact cw | exact cf | fail)) | ((with_reducible show pickE _ _ _); first | refine pickE_intro _ ⟨by omega, by rfl⟩ ?_ | refine pickE_intro _ (by rfl) ?_) | fail); try simp -dsimp -implicitDefEqProofs (maxSteps := 1000000) (disch := first | omega | (simp only [LN, e]; omega)) only [go_sem, Int.reduceToNat, Int.reducePow, Nat.reducePow, Int.reduceAdd, Int.reduceMul, Int.reduceSub, Int.reduceNeg, Nat.reduceAdd, Nat.reduceMul, Nat.reduceSub, Nat.reduceEqDiff, Nat.reduceLT, Nat.reduceLeDiff, e])
          | fail)
        all_goals first | rfl | omega | trace_state
      · have e := badV_0 (v := v) (a := a) (b := b) (.inr (by omega))
        repeat' (first
          | (with_reducible first | refine r_seq ?_ | refine r_block ?_ | refine fork_not ?_ | refine fork_and ?_ | refine fork_or ?_ | refine chk_ok (by kernel_rfl) ?_)
          | ((with_reducible first | refine fork_dec ?_ ?_ | refine fork_eq ?_ ?_ | refine fork_ne ?_ ?_ | refine fork_intro ?_ ?_) <;> intro h <;> try (exfalso; first | omega | exact h rfl | (revert h; decide) | (cases h; done)))
          | ((with_reducible show False); omega)
          | ((first | (with_reducible first | refine r_exit ?_ | refine r_skip ?_ | refine r_cond ?_ | refine r_region ?_ | show VX _ _ _ _ _ _ _ | show vstep _ _ _ _ _ | show vskip _ _ _ | show withV _ _) | ((with_reducible show endA _ _ _ _ _ _ _); simp -implicitDefEqProofs only [endA])); simp -dsimp -implicitDefEqProofs (maxSteps := 1000000) (disch := first | omega | (simp only [LN, e]; omega)) only [go_sem, Int.reduceToNat, Int.reducePow, Nat.reducePow, Int.reduceAdd, Int.reduceMul, Int.reduceSub, Int.reduceNeg, Nat.reduceAdd, Nat.reduceMul, Nat.reduceSub, Nat.reduceEqDiff, Nat.reduceLT, Nat.reduceLeDiff, e])
          | ((first | (with_reducible refine r_ret ?_) | (with_reducible refine pick_viewG default (by first | omega | (simp only [LN, e]; omega)) (by first | omega | (simp only [LN, e]; omega)) ?_) | (with_reducible refine pick_own default (by first | omega | (simp only [LN, e]; omega)) ?_) | (with_reducible refine And.intro (by first | decide | omega | assumption | (simp only [LN, e]; omega)) ?_) | ((with_reducible apply callK_pure); (first | exact cw | exact cf | fail)) | ((with_reducible apply callF_lend); (first | exact cw | exact cf | fail); rfl) | ((with_reducible apply callF_go); (first | exact cw | exact cf | fail)) | ((with_reducible show pickE _ _ _); first | refine pickE_intro _ ⟨by omega, by rfl⟩ ?_ | refine pickE_intro _ (by rfl) ?_) | fail); try simp -dsimp -implicitDefEqProofs (maxSteps := 1000000) (disch := first | omega | (simp only [LN, e]; omega)) only [go_sem, Int.reduceToNat, Int.reducePow, Nat.reducePow, Int.reduceAdd, Int.reduceMul, Int.reduceSub, Int.reduceNeg, Nat.reduceAdd, Nat.reduceMul, Nat.reduceSub, Nat.reduceEqDiff, Nat.reduceLT, Nat.reduceLeDiff, e])
          | fail)
        all_goals try omega
        all_goals
          by_cases h4 : 2 ^ wN b ≤ v
          · have := getB_lt v 0 (wN b)
            simp only [decide_eq_true h4, decide_eq_true_iff, Value.bool.injEq, Bool.not_true]
            exact decide_eq_false (by omega)
          · rw [getB_0 (by omega)]; simp [h4]
    · have e := badV_0 (v := v) (a := a) (b := b) (.inl ⟨h1, h2⟩)
      repeat' (first
        | (with_reducible first | refine r_seq ?_ | refine r_block ?_ | refine fork_not ?_ | refine fork_and ?_ | refine fork_or ?_ | refine chk_ok (by kernel_rfl) ?_)
        | ((with_reducible first | refine fork_dec ?_ ?_ | refine fork_eq ?_ ?_ | refine fork_ne ?_ ?_ | refine fork_intro ?_ ?_) <;> intro h <;> try (exfalso; first | omega | exact h rfl | (revert h; decide) | (cases h; done)))
        | ((with_reducible show False); omega)
        | ((first | (with_reducible first | refine r_exit ?_ | refine r_skip ?_ | refine r_cond ?_ | refine r_region ?_ | show VX _ _ _ _ _ _ _ | show vstep _ _ _ _ _ | show vskip _ _ _ | show withV _ _) | ((with_reducible show endA _ _ _ _ _ _ _); simp -implicitDefEqProofs only [endA])); simp -dsimp -implicitDefEqProofs (maxSteps := 1000000) (disch := first | omega | (simp only [LN, e]; omega)) only [go_sem, Int.reduceToNat, Int.reducePow, Nat.reducePow, Int.reduceAdd, Int.reduceMul, Int.reduceSub, Int.reduceNeg, Nat.reduceAdd, Nat.reduceMul, Nat.reduceSub, Nat.reduceEqDiff, Nat.reduceLT, Nat.reduceLeDiff, e])
        | ((first | (with_reducible refine r_ret ?_) | (with_reducible refine pick_viewG default (by first | omega | (simp only [LN, e]; omega)) (by first | omega | (simp only [LN, e]; omega)) ?_) | (with_reducible refine pick_own default (by first | omega | (simp only [LN, e]; omega)) ?_) | (with_reducible refine And.intro (by first | decide | omega | assumption | (simp only [LN, e]; omega)) ?_) | ((with_reducible apply callK_pure); (first | exact cw | exact cf | fail)) | ((with_reducible apply callF_lend); (first | exact cw | exact cf | fail); rfl) | ((with_reducible apply callF_go); (first | exact cw | exact cf | fail)) | ((with_reducible show pickE _ _ _); first | refine pickE_intro _ ⟨by omega, by rfl⟩ ?_ | refine pickE_intro _ (by rfl) ?_) | fail); try simp -dsimp -implicitDefEqProofs (maxSteps := 1000000) (disch := first | omega | (simp only [LN, e]; omega)) only [go_sem, Int.reduceToNat, Int.reducePow, Nat.reducePow, Int.reduceAdd, Int.reduceMul, Int.reduceSub, Int.reduceNeg, Nat.reduceAdd, Nat.reduceMul, Nat.reduceSub, Nat.reduceEqDiff, Nat.reduceLT, Nat.reduceLeDiff, e])
        | fail)
      all_goals try omega
      all_goals
        by_cases h4 : 2 ^ wN b ≤ v
        · have := getB_lt v 0 (wN b)
          simp only [decide_eq_true h4, decide_eq_true_iff, Value.bool.injEq, Bool.not_true]
          exact decide_eq_false (by omega)
        · rw [getB_0 (by omega)]; simp [h4]
end Go.Proofs.YtlkffmmgcoiniaaDoor
