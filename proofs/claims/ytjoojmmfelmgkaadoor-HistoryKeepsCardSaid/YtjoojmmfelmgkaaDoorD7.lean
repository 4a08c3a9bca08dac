/- Contracts of functions of this program, and the plain facts that they rest on. No conditions. -/
import Derived.Test.YtjoojmmfelmgkaaDoorD6
import Derived.Test.YtjoojmmfelmgkaaDoorBld2
import Derived.Test.YtjoojmmfelmgkaaDoorFu2
import Derived.Lib.ItoaLen
set_option linter.unusedSimpArgs false
set_option linter.unusedVariables false
namespace Go.Proofs.YtjoojmmfelmgkaaDoor
open Go Go.Ab
attribute [local irreducible] callK callF loopQ vstep vskip pickE hideP
open Go.RowKit
set_option maxRecDepth 100000
attribute [local go_sem] eC rC eE hc hP hW oW oP sR oH newC
/-- Bytes as a string. -/
abbrev bs (l : List UInt8) : ByteArray := ⟨l.toArray⟩
theorem bs_size (l : List UInt8) : (ByteArray.mk l.toArray).size = l.length := by simp [ByteArray.size]
theorem bs_list (l : List UInt8) : (ByteArray.mk l.toArray).data.toList = l := rfl
theorem toList_bs (l : List UInt8) : (ByteArray.mk l.toArray).toList = l := by rw [Lib.toList_data]
theorem app_bs (a b : List UInt8) : ByteArray.mk a.toArray ++ ByteArray.mk b.toArray = ByteArray.mk (a ++ b).toArray := by
  apply ByteArray.ext; simp
theorem beq_dec (a b : List UInt8) : (a == b) = decide (a = b) := by by_cases h : a = b <;> simp [h]
theorem imax : IntKind.i64.max = 9223372036854775807 := rfl
attribute [go_sem] toList_bs beq_dec bs_size bs_list app_bs imax
theorem below_grow (w : World) (k : Nat) (os : Array Obj) : Below w.heap.size w (Go.Sort.grow (w.drewN k) os) := by
  have e : (w.drewN k).heap = w.heap := by simp
  refine ⟨rfl, rfl, rfl, by simp [Go.Sort.grow, e], fun j hj => ?_⟩
  simp only [Go.Sort.grow, e]
  exact Array.getElem?_append_left hj
/-- The decimal numeral of a number. -/
def numL (n : Int) : List UInt8 := Lib.itoa n
theorem numL_pos {n : Int} (h : 0 ≤ n) : numL n = Lib.decDigits n.toNat := by unfold numL Lib.itoa; rw [if_neg (by omega)]
theorem numL_len {n : Int} (h : -9223372036854775808 ≤ n ∧ n ≤ 18446744073709551615) : (numL n).length ≤ 21 ∧ 1 ≤ (numL n).length := by
  have key : ∀ u : Nat, u < 18446744073709551616 → (Lib.decDigits u).length ≤ 20 ∧ 1 ≤ (Lib.decDigits u).length := fun u hu => by
    rw [Lib.decDigits_length]
    refine ⟨Lib.nDigits_le20 u (by omega), ?_⟩
    rw [Lib.nDigits]; split <;> omega
  unfold numL Lib.itoa
  split
  · have := key n.natAbs (by omega)
    rw [List.length_cons]; omega
  · have := key n.toNat (by omega); omega
theorem c34 (n : Int) (h : -9223372036854775808 ≤ n ∧ n ≤ 9223372036854775807) : PCalls Tryd.prog 34 [.v (.int .i64 n)] (.v (.string (bs (numL n)))) := by
  refine pcalls_val ⟨_, rfl, rfl, by decide⟩ (u := .string (bs (numL n))) (fun Z w => by simp [Rep, oneB]) fun Z w vals hz hv => ?_
  have e : vals = [.int .i64 n] := by
    simp only [Reps, Rep] at hv
    obtain ⟨_, _, rfl, ⟨rfl, _⟩, rfl⟩ := hv
    rfl
  subst e
  exact (Tryd.strconv_Itoa n h.1 h.2 w hz.gl.2.1).mono fun e w' ⟨he, k, os, hw⟩ => ⟨he, by rw [hw]; exact below_grow w k os⟩
theorem c35 (n : Int) (h : 0 ≤ n ∧ n ≤ 18446744073709551615) : PCalls Tryd.prog 35 [.v (.int .u64 n), .v (.int .i64 10)] (.v (.string (bs (numL n)))) := by
  refine pcalls_val ⟨_, rfl, rfl, by decide⟩ (u := .string (bs (numL n))) (fun Z w => by simp [Rep, oneB]) fun Z w vals hz hv => ?_
  have e : vals = [.int .u64 n, .int .i64 10] := by
    simp only [Reps, Rep] at hv
    obtain ⟨_, _, rfl, ⟨rfl, _⟩, _, _, rfl, ⟨rfl, _⟩, rfl⟩ := hv
    rfl
  subst e
  have := Tryd.strconv_FormatUint_10 n.toNat (by omega) w hz.gl.2.1
  rw [show ((n.toNat : Nat) : Int) = n by omega, ← numL_pos h.1] at this
  exact this.mono fun e w' ⟨he, k, os, hw⟩ => ⟨he, by rw [hw]; exact below_grow w k os⟩
def boolL (b : Bool) : List UInt8 := Lib.formatBool b
theorem boolL_len (b : Bool) : (boolL b).length ≤ 5 := by cases b <;> decide
theorem c36 (b : Bool) : PCalls Tryd.prog 36 [.v (.bool b)] (.v (.string (bs (boolL b)))) := by
  refine pcalls_val ⟨_, rfl, rfl, by decide⟩ (u := .string (bs (boolL b))) (fun Z w => by simp [Rep, oneB]) fun Z w vals hz hv => ?_
  have e : vals = [.bool b] := by
    simp only [Reps, Rep] at hv
    obtain ⟨_, _, rfl, ⟨rfl, _⟩, rfl⟩ := hv
    rfl
  subst e
  exact (Tryd.strconv_FormatBool b w).mono fun e w' ⟨he, hw⟩ => ⟨he, by rw [hw]; exact Below.refl _ _⟩
theorem d33 (b s : List UInt8) (n : Nat) (hn : n = b.length) (h0 : n + s.length ≠ 0) (hlen : n + s.length ≤ 1000000000) :
    ACalls Tryd.prog 33 [.loc 0 0, .p (.v (.string (bs s)))] [.bld 87 (.sl 1 1 0 n), .byt 5 b] (.p (.tup [.v (.int .i64 s.length), .v .nilIface])) [.bld 87 (.sl 2 1 0 (b ++ s).length), .dead, .byt 5 (b ++ s)] := by
  subst hn
  have := ac_writeStringE (P := Tryd.prog) (f := 33) ⟨_, rfl, rfl, by decide⟩ (fun b p v b2 s w hp h hl => Tryd.b_writeString b p v b2 s w hp h hl) b (bs s) (by rw [bs_size]; exact h0) (by rw [bs_size]; omega)
  rw [bs_size] at this; exact this
theorem d37 (b : List UInt8) (n : Nat) (hn : n = b.length) (h0 : n ≠ 0) :
    ACalls Tryd.prog 37 [.loc 0 0] [.bld 87 (.sl 1 1 0 n), .byt 5 b] (.p (.v (.string (bs b)))) [.bld 87 (.sl 2 1 0 b.length), .dead, .byt 5 b] := by
  subst hn
  exact ac_string (P := Tryd.prog) (f := 37) ⟨_, rfl, rfl, by decide⟩ (fun b p v l w h hl => b_string Tryd.lays169 Tryd.Builder_Extra_169 b p v l w h hl) b h0
/-- The kinds' names. -/
def kinds : List (List UInt8) := [[114, 101, 97, 100], [119, 114, 105, 116, 101], [99, 97, 115], [103, 101, 116], [112, 117, 116], [100, 101, 108, 101, 116, 101], [101, 110, 113, 117, 101, 117, 101], [100, 101, 113, 117, 101, 117, 101], [97, 100, 100]]
def eT (l : List UInt8) : PV := .v (.string (bs l))
theorem kinds_len : kinds.length = 9 := rfl
theorem kinds_map : kinds.map eT = [eT [114, 101, 97, 100], eT [119, 114, 105, 116, 101], eT [99, 97, 115], eT [103, 101, 116], eT [112, 117, 116], eT [100, 101, 108, 101, 116, 101], eT [101, 110, 113, 117, 101, 117, 101], eT [100, 101, 113, 117, 101, 117, 101], eT [97, 100, 100]] := rfl
def kindL (k : Int) : List UInt8 := kinds.getD (k - 1).toNat default
theorem kindL_len {k : Int} (h : 1 ≤ k ∧ k ≤ 9) : (kindL k).length ≤ 7 := by
  unfold kindL
  obtain ⟨m, hm, hl⟩ : ∃ m : Nat, (k - 1).toNat = m ∧ m < 9 := ⟨_, rfl, by omega⟩
  rw [hm]
  match m, hl with
  | 0, _ | 1, _ | 2, _ | 3, _ | 4, _ | 5, _ | 6, _ | 7, _ | 8, _ => decide
set_option maxRecDepth 100000 in
set_option maxHeartbeats 4000000 in
theorem c32  : PCalls Tryd.prog 32 [] (.view 1 (kinds.map eT)) := by
  refine pcalls_of (E := E) (fn := Tryd.f32) 2 [.tmp 0] rfl rfl rfl rfl (by decide) rfl ?_
  repeat' (first
    | (with_reducible first | refine r_seq ?_ | refine r_block ?_ | refine fork_not ?_ | refine fork_and ?_ | refine fork_or ?_ | refine chk_ok (by kernel_rfl) ?_)
    | ((with_reducible first | refine fork_dec ?_ ?_ | refine fork_eq ?_ ?_ | refine fork_ne ?_ ?_ | refine fork_intro ?_ ?_) <;> intro h)
    | ((with_reducible show False); omega)
    | ((first | (with_reducible first | refine r_exit ?_ | refine r_skip ?_ | refine r_cond ?_ | refine r_region ?_ | show VX _ _ _ _ _ _ _ | show vstep _ _ _ _ _ | show vskip _ _ _ | show withV _ _) | ((with_reducible show endA _ _ _ _ _ _ _); simp -implicitDefEqProofs only [endA])); simp -dsimp -implicitDefEqProofs (maxSteps := 1000000) (disch := first | omega | (simp only [LN, kinds_map, eT]; omega)) only [go_sem, Int.reduceToNat, Int.reducePow, Nat.reducePow, Int.reduceAdd, Int.reduceMul, Int.reduceSub, Int.reduceNeg, Nat.reduceAdd, Nat.reduceMul, Nat.reduceSub, Nat.reduceEqDiff, Nat.reduceLT, Nat.reduceLeDiff, kinds_map, eT])
    | ((first | (with_reducible refine r_ret ?_) | (with_reducible refine pick_viewG default (by first | omega | (simp only [LN, kinds_map, eT]; omega)) (by first | omega | (simp only [LN, kinds_map, eT]; omega)) ?_) | (with_reducible refine pick_own default (by first | omega | (simp only [LN, kinds_map, eT]; omega)) ?_) | (with_reducible refine And.intro (by first | decide | omega | assumption | (simp only [LN, kinds_map, eT]; omega)) ?_) | ((with_reducible show pickE _ _ _); first | refine pickE_intro _ ⟨by omega, by rfl⟩ ?_ | refine pickE_intro _ (by rfl) ?_) | fail); try simp -dsimp -implicitDefEqProofs (maxSteps := 1000000) (disch := first | omega | (simp only [LN, kinds_map, eT]; omega)) only [go_sem, Int.reduceToNat, Int.reducePow, Nat.reducePow, Int.reduceAdd, Int.reduceMul, Int.reduceSub, Int.reduceNeg, Nat.reduceAdd, Nat.reduceMul, Nat.reduceSub, Nat.reduceEqDiff, Nat.reduceLT, Nat.reduceLeDiff, kinds_map, eT])
    | fail)
  all_goals rfl
def args3 (c : C) : List Int := [c.key, c.val, c.old]
def argT (l : List Int) : Nat → List UInt8
  | 0 => []
  | j + 1 => argT l j ++ ([32] ++ numL (l.getD j default))
def beginH (c : C) : List UInt8 := [98, 101, 103, 105, 110, 32] ++ numL c.th ++ [32] ++ kindL c.k
def beginT (c : C) : List UInt8 := beginH c ++ argT (args3 c) 3
def endT (i : Int) (rv : Int) (ok : Bool) (code : Int) : List UInt8 := [101, 110, 100, 32] ++ numL i ++ [32] ++ numL rv ++ [32] ++ boolL ok ++ [32] ++ numL code
def crashT : List UInt8 := [99, 114, 97, 115, 104]
def evT (x : H) (e : Int × Int) : List UInt8 :=
  if e.1 = 1 then beginT (x.cl.getD e.2.toNat default) else if e.1 = 2 then endT e.2 (x.cl.getD e.2.toNat default).rv (x.cl.getD e.2.toNat default).ok (x.cl.getD e.2.toNat default).code else crashT
def evsT (x : H) : Nat → List UInt8
  | 0 => []
  | i + 1 => evsT x i ++ (evT x (x.ev.getD i default) ++ [10])
def textM (x : H) : List UInt8 := evsT x x.ev.length
/-- The values' ranges. -/
def RngI (c : C) : Prop := (0 ≤ c.th ∧ c.th < 8) ∧ (1 ≤ c.k ∧ c.k ≤ 9) ∧ (0 ≤ c.key ∧ c.key ≤ 18446744073709551615) ∧ (0 ≤ c.val ∧ c.val ≤ 18446744073709551615) ∧ (0 ≤ c.old ∧ c.old ≤ 18446744073709551615) ∧ (0 ≤ c.rv ∧ c.rv ≤ 18446744073709551615) ∧ (-9223372036854775808 ≤ c.code ∧ c.code ≤ 9223372036854775807)
def eU (n : Int) : PV := .v (.int .u64 n)
theorem args3_map (c : C) : (args3 c).map eU = [.v (.int .u64 c.key), .v (.int .u64 c.val), .v (.int .u64 c.old)] := rfl
theorem args3_len (c : C) : (args3 c).length = 3 := rfl
theorem args3_rng {c : C} (h : RngI c) (j : Nat) : 0 ≤ (args3 c).getD j default ∧ (args3 c).getD j default ≤ 18446744073709551615 := by
  unfold RngI at h
  match j with
  | 0 => exact h.2.2.1
  | 1 => exact h.2.2.2.1
  | 2 => exact h.2.2.2.2.1
  | j + 3 => rw [show (args3 c).getD (j + 3) default = 0 from rfl]; decide
theorem argT_len {c : C} (h : RngI c) : ∀ j, (argT (args3 c) j).length ≤ 22 * j
  | 0 => by simp [argT]
  | j + 1 => by
    have h1 := argT_len h j
    have h2 := args3_rng h j
    have h3 := numL_len (n := (args3 c).getD j default) (by omega)
    simp only [argT, List.length_append, List.length_cons, List.length_nil]; omega
theorem beginH_len {c : C} (h : RngI c) : (beginH c).length ≤ 40 ∧ 1 ≤ (beginH c).length := by
  unfold RngI at h
  have h1 := numL_len (n := c.th) (by omega)
  have h2 := kindL_len (k := c.k) (by omega)
  simp only [beginH, List.length_append, List.length_cons, List.length_nil]; omega
theorem evT_len {x : H} (hr : ∀ j, j < x.cl.length → RngI (gc x j)) {e : Int × Int} (he : (e.1 = 1 ∨ e.1 = 2) → 0 ≤ e.2 ∧ e.2 < x.cl.length ∧ e.2 ≤ 1000000) : (evT x e).length ≤ 200 := by
  unfold evT
  split
  · have h := hr e.2.toNat (by omega)
    have h1 := beginH_len h
    have h2 := argT_len h 3
    show (beginT (gc x e.2.toNat)).length ≤ _
    simp only [beginT, List.length_append]; omega
  · split
    · have h := hr e.2.toNat (by omega)
      have g := h
      unfold RngI at g
      have h1 := numL_len (n := e.2) (by omega)
      have h2 := numL_len (n := (gc x e.2.toNat).rv) (by omega)
      have h3 := numL_len (n := (gc x e.2.toNat).code) (by omega)
      have h4 := boolL_len (gc x e.2.toNat).ok
      show (endT e.2 (gc x e.2.toNat).rv (gc x e.2.toNat).ok (gc x e.2.toNat).code).length ≤ _
      simp only [endT, List.length_append, List.length_cons, List.length_nil]; omega
    · decide
theorem evsT_len {x : H} (hr : ∀ j, j < x.cl.length → RngI (gc x j)) (he : ∀ i, ((x.ev.getD i default).1 = 1 ∨ (x.ev.getD i default).1 = 2) → 0 ≤ (x.ev.getD i default).2 ∧ (x.ev.getD i default).2 < x.cl.length ∧ (x.ev.getD i default).2 ≤ 1000000) : ∀ i, (evsT x i).length ≤ 201 * i
  | 0 => by simp [evsT]
  | i + 1 => by
    have h1 := evsT_len hr he i
    have h2 := evT_len hr (he i)
    simp only [evsT, List.length_append, List.length_cons, List.length_nil]; omega
theorem evsT_s (x : H) (i : Nat) : evsT x (i + 1) = evsT x i ++ (evT x (x.ev.getD i default) ++ [10]) := rfl
theorem evsT_0 (x : H) : evsT x 0 = [] := rfl
theorem argT_0 (l : List Int) : argT l 0 = [] := rfl
theorem argT_s (l : List Int) (j : Nat) : argT l (j + 1) = argT l j ++ ([32] ++ numL (l.getD j default)) := rfl
theorem evsT_pos (x : H) (i : Nat) (h : 0 < i) : 1 ≤ (evsT x i).length := by
  obtain ⟨j, rfl⟩ : ∃ j, i = j + 1 := ⟨i - 1, by omega⟩
  simp only [evsT, List.length_append, List.length_cons, List.length_nil]; omega
end Go.Proofs.YtjoojmmfelmgkaaDoor
