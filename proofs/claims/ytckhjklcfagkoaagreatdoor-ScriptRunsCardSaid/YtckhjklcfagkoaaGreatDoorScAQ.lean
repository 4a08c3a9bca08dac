/- Contracts of functions of this program, and the plain facts that they rest on. No conditions. -/
import Derived.Test.YtckhjklcfagkoaaGreatDoorJStCQ
import Derived.Test.YtckhjklcfagkoaaGreatDoorAc4
import Derived.Lib.ItoaLen
import Derived.Lib.AtoiErrMem
set_option linter.unusedSimpArgs false
set_option linter.unusedVariables false
namespace Go.Proofs.YtckhjklcfagkoaaGreatDoor
open Go Go.Ab
attribute [local irreducible] callK callF loopQ vstep vskip pickE hideP
open Go.RowKit
set_option maxRecDepth 100000
abbrev bs (l : List UInt8) : ByteArray := ⟨l.toArray⟩
theorem bs_size (l : List UInt8) : (ByteArray.mk l.toArray).size = l.length := by simp [ByteArray.size]
theorem bs_list (l : List UInt8) : (ByteArray.mk l.toArray).data.toList = l := rfl
theorem toList_bs (l : List UInt8) : (ByteArray.mk l.toArray).toList = l := by rw [Lib.toList_data]
theorem bs_inj {a b : List UInt8} : (ByteArray.mk a.toArray = ByteArray.mk b.toArray) ↔ a = b := by
 constructor
 ·intro h; have := congrArg (fun x => x.data.toList) h; simpa using this
 ·rintro rfl; rfl
theorem ext_bs (l : List UInt8) (a b : Nat) : (ByteArray.mk l.toArray).extract a b = ByteArray.mk ((l.drop a).take (b - a)).toArray := by
 apply ByteArray.ext
 apply Array.ext'
 simp [List.extract_eq_take_drop]
theorem app_bs (a b : List UInt8) : ByteArray.mk a.toArray ++ ByteArray.mk b.toArray = ByteArray.mk (a ++ b).toArray := by
 apply ByteArray.ext; simp
theorem beq_dec (a b : List UInt8) : (a == b) = decide (a = b) := by by_cases h : a = b <;> simp [h]
theorem byteAt_bs (l : List UInt8) (n : Nat) : byteAt ⟨l.toArray⟩ n = ((l.getD n 0).toNat : Int) := rfl
theorem imax : IntKind.i64.max = 9223372036854775807 := rfl
attribute [go_sem] toList_bs beq_dec bs_size bs_list app_bs imax
theorem wr8 (x : Int) : IntKind.u8.wrap x = x % 256 := IntKind.wrap_u8 x
theorem i64w {x : Int} (h1 : -9223372036854775808 ≤ x) (h2 : x ≤ 9223372036854775807) : IntKind.i64.wrap x = x := by rw [IntKind.wrap_i64]; omega
def numL (n : Int) : List UInt8 := Lib.itoa n
theorem numL_pos {n : Int} (h : 0 ≤ n) : numL n = Lib.decDigits n.toNat := by unfold numL Lib.itoa; rw [if_neg (by omega)]
theorem numL_len {n : Int} (h : -9223372036854775808 ≤ n ∧ n ≤ 18446744073709551615) : (numL n).length ≤ 21 ∧ 1 ≤ (numL n).length := by
 have key : ∀ u : Nat, u < 18446744073709551616 → (Lib.decDigits u).length ≤ 20 ∧ 1 ≤ (Lib.decDigits u).length := fun u hu => by
  rw [Lib.decDigits_length]
  refine ⟨Lib.nDigits_le20 u (by omega), ?_⟩
  rw [Lib.nDigits]; split <;> omega
 unfold numL Lib.itoa
 split
 ·have := key n.natAbs (by omega)
  rw [List.length_cons]; omega
 ·have := key n.toNat (by omega); omega
def eT (l : List UInt8) : PV := .v (.string (bs l))
structure Ev where
 k : Int
 th : Int
 o : Int
 v : Int
 w : Int
 ln : Int
 n : Int
 ch : List UInt8
instance : Inhabited Ev := ⟨⟨0, 0, 0, 0, 0, 0, 0, []⟩⟩
def eE (x : Ev) : PV := .agg [.v (.int .u8 x.k), .v (.int .i64 x.th), .v (.int .u64 x.o), .v (.int .u64 x.v), .v (.int .u64 x.w), .v (.int .i64 x.ln), .v (.int .i64 x.n), .view 1 (x.ch.map eB)]
def rE (x : Ev) : PV := .agg [.v (.int .i64 x.k), .v (.int .i64 x.th), .v (.int .u64 x.o), .v (.int .u64 x.v), .v (.int .u64 x.w), .v (.int .i64 x.ln), .v (.int .i64 x.n), .view 1 (x.ch.map eB)]
structure Rng (x : Ev) : Prop where
 th : -9223372036854775808 ≤ x.th ∧ x.th ≤ 9223372036854775807
 o : 0 ≤ x.o ∧ x.o ≤ 18446744073709551615
 v : 0 ≤ x.v ∧ x.v ≤ 18446744073709551615
 w : 0 ≤ x.w ∧ x.w ≤ 18446744073709551615
 ln : -9223372036854775808 ≤ x.ln ∧ x.ln ≤ 9223372036854775807
 n : -9223372036854775808 ≤ x.n ∧ x.n ≤ 9223372036854775807
def okK (x : Ev) : Prop :=
 x.k = 1 ∧ (0 ≤ x.th ∧ x.th ≤ 7) ∧ x.w = 0 ∧ x.ln = 0 ∧ x.n = 0 ∧ x.ch.length = 0 ∨
 x.k = 2 ∧ (0 ≤ x.th ∧ x.th ≤ 7) ∧ x.ln = 0 ∧ x.n = 0 ∧ x.ch.length = 0 ∨
 x.k = 3 ∧ (0 ≤ x.th ∧ x.th ≤ 7) ∧ x.v = 0 ∧ x.w = 0 ∧ x.ln = 0 ∧ x.n = 0 ∧ x.ch.length = 0 ∨
 x.k = 4 ∧ (0 ≤ x.th ∧ x.th ≤ 7) ∧ x.o = 0 ∧ x.v = 0 ∧ x.w = 0 ∧ x.ln = 0 ∧ x.n = 0 ∧ x.ch.length = 0 ∨
 x.k = 5 ∧ x.th = 0 ∧ x.o = 0 ∧ x.v = 0 ∧ x.w = 0 ∧ (0 ≤ x.ln ∧ x.ln ≤ 4095) ∧ (0 ≤ x.n ∧ x.n ≤ 2147483647) ∧ x.ch.length = 0 ∨
 x.k = 6 ∧ x.th = 0 ∧ x.o = 0 ∧ x.v = 0 ∧ x.w = 0 ∧ x.ln = 0 ∧ (-1 ≤ x.n ∧ x.n ≤ 2147483647) ∧ x.ch.length = 0 ∨
 x.k = 7 ∧ x.th = 0 ∧ x.o = 0 ∧ x.v = 0 ∧ x.w = 0 ∧ x.ln = 0 ∧ x.n = 0 ∧ x.ch.length ≤ 512
instance (x : Ev) : Decidable (okK x) := by unfold okK; exact inferInstance
def okE (x : Ev) : Bool := decide (okK x)
theorem okE_t {x : Ev} (h : okE x = true) : okK x := of_decide_eq_true h
def hexS : List UInt8 := [48, 49, 50, 51, 52, 53, 54, 55, 56, 57, 97, 98, 99, 100, 101, 102]
def hexL : List UInt8 → List UInt8
 | [] => []
 | b :: l => hexS.getD (b.toNat / 16) 0 :: hexS.getD (b.toNat % 16) 0 :: hexL l
theorem hexL_len : ∀ l, (hexL l).length = 2 * l.length
 | [] => rfl
 | b :: l => by simp only [hexL, List.length_cons, hexL_len l]; omega
def chL (c : List UInt8) : List UInt8 := match c with
 | [] => [45]
 | b :: l => hexL (b :: l)
def wsE (x : Ev) : List (List UInt8) :=
 if x.k = 1 then [[115, 116, 111, 114, 101], numL x.th, numL x.o, numL x.v]
 else if x.k = 2 then [[99, 97, 115], numL x.th, numL x.o, numL x.w, numL x.v]
 else if x.k = 3 then [[102, 108, 117, 115, 104], numL x.th, numL x.o]
 else if x.k = 4 then [[102, 101, 110, 99, 101], numL x.th]
 else if x.k = 5 then [[119, 114, 105, 116, 101, 98, 97, 99, 107], numL x.ln, numL x.n]
 else if x.k = 6 then [[97, 114, 109], numL x.n]
 else [[99, 114, 97, 115, 104], chL x.ch]
def joinL (x : UInt8) : List (List UInt8) → List UInt8
 | [] => []
 | [w] => w
 | w :: v :: ws => w ++ x :: joinL x (v :: ws)
def txE (x : Ev) : List UInt8 := joinL 32 (wsE x)
def txV (x : Ev) : List UInt8 := if okE x = true then txE x else []
def lnE (x : Ev) : List UInt8 := if okE x = true then txE x ++ [10] else []
def txL : List Ev → List UInt8
 | [] => []
 | x :: l => lnE x ++ txL l
theorem chL_len (c : List UInt8) : (chL c).length ≤ 1 + 2 * c.length := by
 unfold chL; split
 ·simp
 ·rw [hexL_len]; omega
theorem wsE_of {x : Ev} (h : okK x) (R : Rng x) : ∀ w, w ∈ wsE x → w.length ≤ 1030 := by
 have n1 := (numL_len (n := x.th) ⟨R.th.1, by have := R.th.2; omega⟩).1
 have n2 := (numL_len (n := x.o) ⟨by have := R.o.1; omega, R.o.2⟩).1
 have n3 := (numL_len (n := x.v) ⟨by have := R.v.1; omega, R.v.2⟩).1
 have n4 := (numL_len (n := x.w) ⟨by have := R.w.1; omega, R.w.2⟩).1
 have n5 := (numL_len (n := x.ln) ⟨R.ln.1, by have := R.ln.2; omega⟩).1
 have n6 := (numL_len (n := x.n) ⟨R.n.1, by have := R.n.2; omega⟩).1
 have n7 := chL_len x.ch
 have n8 : x.ch.length ≤ 512 := by unfold okK at h; omega
 unfold wsE
 repeat' split
 all_goals
  simp only [List.mem_cons, List.not_mem_nil, or_false, forall_eq_or_imp, forall_eq]
  repeat' (refine And.intro ?_ ?_)
  all_goals first | omega | (simp only [List.length_cons, List.length_nil]; omega)
theorem num_ns (n : Int) (x : UInt8) (hx : x = 32 ∨ x = 10) : x ∉ numL n := by
 have dec_digit : ∀ (u : Nat) (c : UInt8), c ∈ Lib.decDigits u → 48 ≤ c.toNat ∧ c.toNat ≤ 57 := by
  intro u
  induction u using Nat.strongRecOn with
  | _ u ih =>
   intro c hc
   by_cases h : u < 10
   ·rw [Lib.decDigits, dif_pos h] at hc
    simp at hc; subst hc; simp; omega
   ·rw [Lib.decDigits, dif_neg h] at hc
    rcases List.mem_append.1 hc with hc | hc
    ·exact ih (u / 10) (by omega) c hc
    ·simp at hc; subst hc; simp; omega
 intro h
 unfold numL Lib.itoa at h
 have key : ∀ u, x ∈ Lib.decDigits u → False := fun u hu => by
  have := dec_digit u x hu
  rcases hx with rfl | rfl
  ·have e : (32 : UInt8).toNat = 32 := rfl
   omega
  ·have e : (10 : UInt8).toNat = 10 := rfl
   omega
 split at h
 ·rcases List.mem_cons.1 h with h | h
  ·subst h; rcases hx with h | h <;> exact absurd h (by decide)
  ·exact key _ h
 ·exact key _ h
theorem hexS_ns : ∀ n : Nat, n < 16 → ¬ hexS.getD n 0 = 32 ∧ ¬ hexS.getD n 0 = 10 := by decide
theorem hex_ns (x : UInt8) (hx : x = 32 ∨ x = 10) : ∀ l, x ∉ hexL l
 | [] => by simp [hexL]
 | b :: l => by
  have h1 := hexS_ns (b.toNat / 16) (by have := UInt8.toNat_lt b; omega)
  have h2 := hexS_ns (b.toNat % 16) (by omega)
  have h3 := hex_ns x hx l
  intro h
  simp only [hexL, List.mem_cons] at h
  rcases hx with rfl | rfl
  ·rcases h with h | h | h
   ·exact h1.1 h.symm
   ·exact h2.1 h.symm
   ·exact h3 h
  ·rcases h with h | h | h
   ·exact h1.2 h.symm
   ·exact h2.2 h.symm
   ·exact h3 h
theorem ch_ns (c : List UInt8) (x : UInt8) (hx : x = 32 ∨ x = 10) : x ∉ chL c := by
 unfold chL; split
 ·rcases hx with rfl | rfl <;> decide
 ·exact hex_ns x hx _
theorem wsE_ns (x : Ev) (c : UInt8) (hc : c = 32 ∨ c = 10) : ∀ w, w ∈ wsE x → c ∉ w := by
 unfold wsE
 repeat' split
 all_goals
  simp only [List.mem_cons, List.not_mem_nil, or_false, forall_eq_or_imp, forall_eq]
  repeat' (refine And.intro ?_ ?_)
  all_goals first | exact num_ns _ _ hc | exact ch_ns _ _ hc | (rcases hc with rfl | rfl <;> decide)
theorem wsE_ne (x : Ev) : wsE x ≠ [] ∧ (wsE x).length ≤ 5 := by
 unfold wsE
 repeat' split
 all_goals exact ⟨by simp, by simp⟩
theorem join_len (x : UInt8) : ∀ (ws : List (List UInt8)) (m : Nat), (∀ w, w ∈ ws → w.length ≤ m) → (joinL x ws).length ≤ ws.length * (m + 1)
 | [], m, _ => by simp [joinL]
 | [w], m, h => by simp only [joinL, List.length_cons, List.length_nil]; have := h w (by simp); omega
 | w :: v :: ws, m, h => by
  have ih := join_len x (v :: ws) m (fun u hu => h u (List.mem_cons_of_mem _ hu))
  have hw := h w (by simp)
  simp only [joinL, List.length_append, List.length_cons] at ih ⊢
  have e : (ws.length + 1 + 1) * (m + 1) = (ws.length + 1) * (m + 1) + (m + 1) := Nat.succ_mul _ _
  omega
theorem join_ns (x c : UInt8) (hx : c ≠ x) : ∀ (ws : List (List UInt8)), (∀ w, w ∈ ws → c ∉ w) → c ∉ joinL x ws
 | [], _ => by simp [joinL]
 | [w], h => by simpa [joinL] using h w (by simp)
 | w :: v :: ws, h => by
  have ih := join_ns x c hx (v :: ws) (fun u hu => h u (List.mem_cons_of_mem _ hu))
  have hw := h w (by simp)
  simp only [joinL, List.mem_append, List.mem_cons, not_or]
  exact ⟨hw, hx, ih⟩
theorem txE_len {x : Ev} (h : okE x = true) (R : Rng x) : (txE x).length ≤ 5155 := by
 have h1 := join_len 32 (wsE x) 1030 (wsE_of (okE_t h) R)
 have h2 := (wsE_ne x).2
 have h3 : (wsE x).length * (1030 + 1) ≤ 5 * 1031 := Nat.mul_le_mul_right _ h2
 unfold txE; omega
theorem txE_ns (x : Ev) : (10 : UInt8) ∉ txE x := join_ns 32 10 (by decide) _ (wsE_ns x 10 (.inr rfl))
theorem lnE_len {x : Ev} (R : Rng x) : (lnE x).length ≤ 5156 := by
 unfold lnE; split
 ·rename_i h; have := txE_len h R; simp only [List.length_append, List.length_cons, List.length_nil]; omega
 ·simp
theorem txL_len : ∀ l : List Ev, (∀ x, x ∈ l → Rng x) → (txL l).length ≤ 5156 * l.length
 | [], _ => by simp [txL]
 | x :: l, h => by
  have h1 := lnE_len (h x (by simp))
  have h2 := txL_len l (fun y hy => h y (List.mem_cons_of_mem _ hy))
  simp only [txL, List.length_append, List.length_cons]; omega
end Go.Proofs.YtckhjklcfagkoaaGreatDoor
