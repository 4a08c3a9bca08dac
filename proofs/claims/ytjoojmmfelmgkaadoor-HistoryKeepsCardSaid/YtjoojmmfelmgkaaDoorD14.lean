/- Contracts of functions of this program, and the plain facts that they rest on. No conditions. -/
import Derived.Test.YtjoojmmfelmgkaaDoorD13
set_option linter.unusedSimpArgs false
set_option linter.unusedVariables false
namespace Go.Proofs.YtjoojmmfelmgkaaDoor
open Go Go.Ab
attribute [local irreducible] callK callF loopQ vstep vskip pickE hideP
open Go.RowKit
set_option maxRecDepth 100000
attribute [local go_sem] eC rC eE hc hP hW hX oW oP sR oH newC eS eT
attribute [local irreducible] doH playH h0 playN numL
theorem c38 (a b : List UInt8) (ha : (10 : UInt8) ∉ a) (hl : a.length + b.length ≤ 100000000) : PCalls Tryd.prog 38 [.v (.string (bs (a ++ 10 :: b))), .v (.string ⟨#[10]⟩)] (.tup [.v (.string (bs a)), .v (.string (bs b)), .v (.bool true)]) := by
  refine pcalls_val ⟨_, rfl, rfl, by decide⟩ (u := .tuple #[.string (bs a), .string (bs b), .bool true]) (fun Z w => by simp only [Rep, Reps]; exact ⟨_, ⟨_, _, rfl, ⟨rfl, rfl⟩, _, _, rfl, ⟨rfl, rfl⟩, _, _, rfl, ⟨rfl, rfl⟩, rfl⟩, rfl⟩) fun Z w vals hz hv => ?_
  have e : vals = [.string (bs (a ++ 10 :: b)), .string ⟨#[10]⟩] := by
    simp only [Reps, Rep] at hv
    obtain ⟨_, _, rfl, ⟨rfl, _⟩, _, _, rfl, ⟨rfl, _⟩, rfl⟩ := hv
    rfl
  subst e
  obtain ⟨m, hm⟩ := hz.gl.2.2
  have := Tryd.strings_Cut (bs (a ++ 10 :: b)) ⟨#[10]⟩ m w (by rw [bs_size]; simp; omega) hm
  rw [show (bs (a ++ 10 :: b)).data.toList = a ++ 10 :: b from rfl, show (ByteArray.mk #[10]).data.toList = [10] from rfl, cut_hit 10 a b ha] at this
  exact this.mono fun e w' ⟨he, n, hw⟩ => ⟨he, by rw [hw]; exact ⟨rfl, rfl, rfl, by simp, fun k hk => by simp⟩⟩
theorem c67 (n : Int) (h : -9223372036854775808 ≤ n ∧ n ≤ 9223372036854775807) : PCalls Tryd.prog 67 [.v (.string (bs (numL n)))] (.tup [.v (.int .i64 n), .v .nilIface]) := by
  refine pcalls_val ⟨_, rfl, rfl, by decide⟩ (u := .tuple #[.int .i64 n, .nilIface]) (fun Z w => by simp only [Rep, Reps]; exact ⟨_, ⟨_, _, rfl, ⟨rfl, rfl⟩, _, _, rfl, ⟨rfl, rfl⟩, rfl⟩, rfl⟩) fun Z w vals hz hv => ?_
  have e : vals = [.string (bs (numL n))] := by
    simp only [Reps, Rep] at hv
    obtain ⟨_, _, rfl, ⟨rfl, _⟩, rfl⟩ := hv
    rfl
  subst e
  have hl := numL_len (n := n) (by omega)
  refine (Tryd.strconv_Atoi_ok (bs (numL n)) (by rw [bs_size]; omega) n (parseA h) w).mono fun e w' ⟨he, hw⟩ => ⟨he, ?_⟩
  rcases hw with rfl | ⟨t, rfl⟩
  · exact Below.refl _ _
  · exact Lib.bytesWorld_below _ _ _
theorem c66 (n : Int) (h : 0 ≤ n ∧ n ≤ 18446744073709551615) : PCalls Tryd.prog 66 [.v (.string (bs (numL n))), .v (.int .i64 10), .v (.int .i64 64)] (.tup [.v (.int .u64 n), .v .nilIface]) := by
  refine pcalls_val ⟨_, rfl, rfl, by decide⟩ (u := .tuple #[.int .u64 n, .nilIface]) (fun Z w => by simp only [Rep, Reps]; exact ⟨_, ⟨_, _, rfl, ⟨rfl, rfl⟩, _, _, rfl, ⟨rfl, rfl⟩, rfl⟩, rfl⟩) fun Z w vals hz hv => ?_
  have e : vals = [.string (bs (numL n)), .int .i64 10, .int .i64 64] := by
    simp only [Reps, Rep] at hv
    obtain ⟨_, _, rfl, ⟨rfl, _⟩, _, _, rfl, ⟨rfl, _⟩, _, _, rfl, ⟨rfl, _⟩, rfl⟩ := hv
    rfl
  subst e
  have hl := numL_len (n := n) (by omega)
  have := Tryd.strconv_ParseUint_10_at64_ok (bs (numL n)) (by rw [bs_size]; omega) n.toNat (parseU h) w
  rw [show ((n.toNat : Nat) : Int) = n by omega] at this
  refine this.mono fun e w' ⟨he, hw⟩ => ⟨he, ?_⟩
  rcases hw with rfl | rfl
  · exact Below.refl _ _
  · exact Lib.bytesWorld_below _ _ _
theorem c48 (ws : List (List UInt8)) (hne : ws ≠ []) (h : ∀ w, w ∈ ws → (32 : UInt8) ∉ w) (hl : (joinL 32 ws).length ≤ 1000000) (hl2 : ws.length ≤ 1000000) : PCalls Tryd.prog 48 [.v (.string (bs (joinL 32 ws))), .v (.string ⟨#[32]⟩)] (.view 1 (ws.map eT)) := by
  refine pcalls_new ⟨_, rfl, rfl, by decide⟩ fun Z w vals hz hv => ?_
  have e : vals = [.string (bs (joinL 32 ws)), .string ⟨#[32]⟩] := by
    simp only [Reps, Rep] at hv
    obtain ⟨_, _, rfl, ⟨rfl, _⟩, _, _, rfl, ⟨rfl, _⟩, rfl⟩ := hv
    rfl
  subst e
  obtain ⟨m, hm⟩ := hz.gl.2.2
  obtain ⟨k1, k2⟩ := splitB_join 32 ws hne h
  have := Tryd.strings_Split (bs (joinL 32 ws)) ⟨#[32]⟩ m w (by rw [bs_size]; omega) hm (by decide)
  rw [k1, k2] at this
  refine this.mono fun e w' ⟨he, hw⟩ => ⟨_, he, ?_, ?_⟩
  · rw [hw]; exact ⟨rfl, rfl, rfl, by simp, fun k hk => alloc_heap_old hk⟩
  · simp only [Rep]
    refine ⟨ws.map fun l => Value.string (bs l), some ⟨w.heap.size, 0, none⟩, ws.length, ?_, by simp, by decide, ?_, by simp [big]; omega, ?_⟩
    · have : ∀ l : List (List UInt8), Reps (fun b => Z b ∨ (w.heap.size ≤ b ∧ b < w'.heap.size)) w' (l.map eT) (l.map fun l => Value.string (bs l)) := by
        intro l
        induction l with
        | nil => rfl
        | cons y l ih => simp only [List.map_cons, Reps, eT, Rep]; exact ⟨_, _, rfl, ⟨rfl, rfl⟩, ih⟩
      exact this ws
    · intro x hx
      obtain ⟨l, _, rfl⟩ := List.mem_map.1 hx
      exact ⟨rfl, fun y hy => by simp [vcells, Value.cells] at hy; subst hy; rfl⟩
    · refine ⟨by simp, .inr ⟨rfl, .inr ⟨Nat.le_refl _, by rw [hw]; simp⟩, fun k u hk i v hi => ?_⟩⟩
      rw [List.getElem?_map] at hk
      cases hkw : ws[k]? with
      | none => simp [hkw] at hk
      | some y =>
        simp only [hkw, Option.map_some, Option.some.injEq] at hk
        subst hk
        cases i with
        | succ i => simp [vcells, Value.cells] at hi
        | zero =>
          simp [vcells, Value.cells] at hi
          subst hi
          rw [hw]
          simp only [World.cell?, Nat.mul_one, Nat.add_zero, Nat.zero_add]
          rw [alloc_heap_new]
          simp [hkw]
end Go.Proofs.YtjoojmmfelmgkaaDoor
