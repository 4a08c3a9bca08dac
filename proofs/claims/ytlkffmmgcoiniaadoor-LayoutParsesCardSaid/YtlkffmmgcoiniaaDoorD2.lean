/- Contracts of functions of this program, and the plain facts that they rest on. No conditions. -/
import Derived.Test.YtlkffmmgcoiniaaDoorD1
set_option linter.unusedSimpArgs false
set_option linter.unusedVariables false
namespace Go.Proofs.YtlkffmmgcoiniaaDoor
open Go Go.Ab
attribute [local irreducible] callK callF loopQ vstep vskip pickE hideP
/-- A field. -/
structure F where
  nm : List UInt8
  ty : Int
  cnt : Int
deriving DecidableEq
instance : Inhabited F := ⟨⟨[], 0, 0⟩⟩
def eF (f : F) : PV := .agg [.v (.string (bs f.nm)), .v (.int .u8 f.ty), .v (.int .i64 f.cnt)]
def rF (f : F) : PV := .agg [.v (.string (bs f.nm)), .v (.int .i64 f.ty), .v (.int .i64 f.cnt)]
/-- A slot: a field, its first word, the shift there, the width. -/
structure S where
  f : F
  wd : Nat
  sh : Nat
  wi : Nat
deriving DecidableEq
instance : Inhabited S := ⟨⟨default, 0, 0, 0⟩⟩
def eS (s : S) : PV := .agg [.v (.string (bs s.f.nm)), .v (.int .u8 s.f.ty), .v (.int .i64 s.f.cnt), .v (.int .i64 s.wd), .v (.int .i64 s.sh), .v (.int .i64 s.wi)]
def eP (p : Nat × Nat) : PV := .agg [.v (.int .i64 p.1), .v (.int .i64 p.2)]
attribute [local go_sem] eF rF eS eP
/-- A type's width. -/
def wN (t : Int) : Nat := if t = 3 then 32 else if t = 4 then 16 else if t = 5 then 8 else if t = 6 then 1 else 64
theorem wM_wN (t : Int) : wM t = (wN t : Int) := by unfold wM wN; (repeat' split) <;> rfl
theorem wN_cases (t : Int) : wN t = 64 ∨ wN t = 32 ∨ wN t = 16 ∨ wN t = 8 ∨ wN t = 1 := by unfold wN; (repeat' split) <;> simp
/-- The place where an element of width w goes. -/
def normP (w : Nat) (p : Nat × Nat) : Nat × Nat := if 64 < p.2 + w then (p.1 + 1, 0) else p
/-- Element k of a field whose first element is at (W, s). -/
def posK (w W s k : Nat) : Nat × Nat := if k < (64 - s) / w then (W, s + k * w) else (W + 1 + (k - (64 - s) / w) / (64 / w), (k - (64 - s) / w) % (64 / w) * w)
/-- What is behind c elements. -/
def endP (w W s c : Nat) : Nat × Nat := if (64 - s) / w < c then (W + 1 + (c - (64 - s) / w - 1) / (64 / w), (c - (64 - s) / w - (c - (64 - s) / w - 1) / (64 / w) * (64 / w)) * w) else (W, s + c * w)
theorem normP_t {w W s : Nat} (h : 64 < s + w) : normP w (W, s) = (W + 1, 0) := if_pos h
theorem normP_f {w W s : Nat} (h : ¬ 64 < s + w) : normP w (W, s) = (W, s) := if_neg h
theorem endP_t {w W s c : Nat} (h : (64 - s) / w < c) : endP w W s c = (W + 1 + (c - (64 - s) / w - 1) / (64 / w), (c - (64 - s) / w - (c - (64 - s) / w - 1) / (64 / w) * (64 / w)) * w) := if_pos h
theorem endP_f {w W s c : Nat} (h : ¬ (64 - s) / w < c) : endP w W s c = (W, s + c * w) := if_neg h
def slotM (p : Nat × Nat) (f : F) : S := ⟨f, (normP (wN f.ty) p).1, (normP (wN f.ty) p).2, wN f.ty⟩
def nextM (p : Nat × Nat) (f : F) : Nat × Nat := endP (wN f.ty) (normP (wN f.ty) p).1 (normP (wN f.ty) p).2 f.cnt.toNat
theorem tyc7 {t : Int} (h : 1 ≤ t ∧ t ≤ 7) : t = 1 ∨ t = 2 ∨ t = 3 ∨ t = 4 ∨ t = 5 ∨ t = 6 ∨ t = 7 := by omega
theorem tdiv_nn {a b : Int} (h : 0 ≤ a) : a.tdiv b = a / b := Int.tdiv_eq_ediv_of_nonneg h
theorem tmod_nn {a b : Int} (h : 0 ≤ a) : a.tmod b = a % b := Int.tmod_eq_emod_of_nonneg h
theorem wT1 : wT 1 = 64 := rfl
theorem wT2 : wT 2 = 64 := rfl
theorem wT3 : wT 3 = 32 := rfl
theorem wT4 : wT 4 = 16 := rfl
theorem wT5 : wT 5 = 8 := rfl
theorem wT6 : wT 6 = 1 := rfl
theorem wT7 : wT 7 = 64 := rfl
theorem wN1 : wN 1 = 64 := rfl
theorem wN2 : wN 2 = 64 := rfl
theorem wN3 : wN 3 = 32 := rfl
theorem wN4 : wN 4 = 16 := rfl
theorem wN5 : wN 5 = 8 := rfl
theorem wN6 : wN 6 = 1 := rfl
theorem wN7 : wN 7 = 64 := rfl
theorem c36_1 : PCalls Tryd.prog 36 [.v (.int .u8 1)] (.v (.int .i64 64)) := c36 1 (by omega)
theorem c36_2 : PCalls Tryd.prog 36 [.v (.int .u8 2)] (.v (.int .i64 64)) := c36 2 (by omega)
theorem c36_3 : PCalls Tryd.prog 36 [.v (.int .u8 3)] (.v (.int .i64 32)) := c36 3 (by omega)
theorem c36_4 : PCalls Tryd.prog 36 [.v (.int .u8 4)] (.v (.int .i64 16)) := c36 4 (by omega)
theorem c36_5 : PCalls Tryd.prog 36 [.v (.int .u8 5)] (.v (.int .i64 8)) := c36 5 (by omega)
theorem c36_6 : PCalls Tryd.prog 36 [.v (.int .u8 6)] (.v (.int .i64 1)) := c36 6 (by omega)
theorem c36_7 : PCalls Tryd.prog 36 [.v (.int .u8 7)] (.v (.int .i64 64)) := c36 7 (by omega)
set_option maxRecDepth 100000 in
set_option maxHeartbeats 4000000 in
theorem c37 (W s : Nat) (nm : List UInt8) (ty : Int) (c : Nat) (ht : 1 ≤ ty ∧ ty ≤ 7) (hs : s ≤ 64) (hW : W ≤ 1000000) (hc : 1 ≤ c ∧ c ≤ 3840) : PCalls Tryd.prog 37 [eP (W, s), eF ⟨nm, ty, c⟩] (.tup [eS (slotM (W, s) ⟨nm, ty, c⟩), eP (nextM (W, s) ⟨nm, ty, c⟩)]) := by
  refine pcalls_of (E := E) (fn := Tryd.f37) 76 [.cell 4 47, .cell 5 82] rfl rfl rfl rfl (by decide) rfl ?_
  rcases tyc7 ht with rfl | rfl | rfl | rfl | rfl | rfl | rfl
  all_goals
    repeat' (first
      | (with_reducible first | refine r_seq ?_ | refine r_block ?_ | refine fork_not ?_ | refine fork_and ?_ | refine fork_or ?_ | refine chk_ok (by kernel_rfl) ?_)
      | ((with_reducible first | refine fork_dec ?_ ?_ | refine fork_eq ?_ ?_ | refine fork_ne ?_ ?_ | refine fork_intro ?_ ?_) <;> intro h)
      | ((with_reducible show False); omega)
      | ((first | (with_reducible first | refine r_exit ?_ | refine r_skip ?_ | refine r_cond ?_ | refine r_region ?_ | show VX _ _ _ _ _ _ _ | show vstep _ _ _ _ _ | show vskip _ _ _ | show withV _ _) | ((with_reducible show endA _ _ _ _ _ _ _); simp -implicitDefEqProofs only [endA])); simp -dsimp -implicitDefEqProofs (maxSteps := 1000000) (disch := first | omega | (simp only [LN, tdiv_nn, slotM, nextM, wN1, wN2, wN3, wN4, wN5, wN6, wN7]; omega)) only [go_sem, Int.reduceToNat, Int.reducePow, Nat.reducePow, Int.reduceAdd, Int.reduceMul, Int.reduceSub, Int.reduceNeg, Nat.reduceAdd, Nat.reduceMul, Nat.reduceSub, Nat.reduceEqDiff, Nat.reduceLT, Nat.reduceLeDiff, tdiv_nn, slotM, nextM, wN1, wN2, wN3, wN4, wN5, wN6, wN7])
      | ((first | (with_reducible refine r_ret ?_) | (with_reducible refine pick_viewG default (by first | omega | (simp only [LN, tdiv_nn, slotM, nextM, wN1, wN2, wN3, wN4, wN5, wN6, wN7]; omega)) (by first | omega | (simp only [LN, tdiv_nn, slotM, nextM, wN1, wN2, wN3, wN4, wN5, wN6, wN7]; omega)) ?_) | (with_reducible refine pick_own default (by first | omega | (simp only [LN, tdiv_nn, slotM, nextM, wN1, wN2, wN3, wN4, wN5, wN6, wN7]; omega)) ?_) | (with_reducible refine And.intro (by first | decide | omega | assumption | (simp only [LN, tdiv_nn, slotM, nextM, wN1, wN2, wN3, wN4, wN5, wN6, wN7]; omega)) ?_) | ((with_reducible apply callK_pure); (first | exact c36_1 | exact c36_2 | exact c36_3 | exact c36_4 | exact c36_5 | exact c36_6 | exact c36_7 | fail)) | ((with_reducible apply callF_lend); (first | exact c36_1 | exact c36_2 | exact c36_3 | exact c36_4 | exact c36_5 | exact c36_6 | exact c36_7 | fail); rfl) | ((with_reducible apply callF_go); (first | exact c36_1 | exact c36_2 | exact c36_3 | exact c36_4 | exact c36_5 | exact c36_6 | exact c36_7 | fail)) | ((with_reducible show pickE _ _ _); first | refine pickE_intro _ ⟨by omega, by rfl⟩ ?_ | refine pickE_intro _ (by rfl) ?_) | fail); try simp -dsimp -implicitDefEqProofs (maxSteps := 1000000) (disch := first | omega | (simp only [LN, tdiv_nn, slotM, nextM, wN1, wN2, wN3, wN4, wN5, wN6, wN7]; omega)) only [go_sem, Int.reduceToNat, Int.reducePow, Nat.reducePow, Int.reduceAdd, Int.reduceMul, Int.reduceSub, Int.reduceNeg, Nat.reduceAdd, Nat.reduceMul, Nat.reduceSub, Nat.reduceEqDiff, Nat.reduceLT, Nat.reduceLeDiff, tdiv_nn, slotM, nextM, wN1, wN2, wN3, wN4, wN5, wN6, wN7])
      | fail)
    all_goals
      (first | rw [normP_t (by omega)] | rw [normP_f (by omega)]) <;> (try simp only []) <;> (first | rw [endP_t (by omega)] | rw [endP_f (by omega)]) <;> simp only [Value.int.injEq, Nat.reduceDiv, Int.reduceDiv, Nat.div_one, Int.ediv_one, Nat.sub_zero, true_and] <;> (repeat' apply And.intro) <;> first | trivial | omega | trace_state
end Go.Proofs.YtlkffmmgcoiniaaDoor
