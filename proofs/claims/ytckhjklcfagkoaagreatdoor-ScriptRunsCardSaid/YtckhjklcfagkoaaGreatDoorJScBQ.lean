/- Contracts of functions of this program, and the plain facts that they rest on. No conditions. -/
import Derived.Test.YtckhjklcfagkoaaGreatDoorScAQ
import Derived.Test.YtckhjklcfagkoaaGreatDoorShelfQ
import Derived.Lib.AtoiErrMem
import Derived.Test.YtckhjklcfagkoaaGreatDoorAc4
import Derived.Lib.ItoaMem
import Derived.Test.YtckhjklcfagkoaaGreatDoorJScCQ
set_option linter.unusedSimpArgs false
set_option linter.unusedVariables false
namespace Go.Proofs.YtckhjklcfagkoaaGreatDoor
open Go Go.Ab
attribute [local irreducible] callK callF loopQ vstep vskip pickE hideP
open Go.RowKit
set_option maxRecDepth 100000
theorem idx_hit (x : UInt8) : ∀ (a b : List UInt8), x ∉ a → Lib.index (a ++ x :: b) [x] = a.length
 | [], b, _ => by simp [Lib.index, List.isPrefixOf]
 | y :: a, b, h => by
  have h1 : x ≠ y := fun e => h (by simp [e])
  have h2 := idx_hit x a b (fun hm => h (List.mem_cons_of_mem _ hm))
  show Lib.index (y :: (a ++ x :: b)) [x] = _
  rw [Lib.index, if_neg (by simp [List.isPrefixOf, h1]), h2, if_neg (by simp <;> omega)]
  simp
theorem idx_miss (x : UInt8) : ∀ s : List UInt8, x ∉ s → Lib.index s [x] = -1
 | [], _ => by simp [Lib.index]
 | y :: s, h => by
  have h1 : x ≠ y := fun e => h (by simp [e])
  have h2 := idx_miss x s (fun hm => h (List.mem_cons_of_mem _ hm))
  rw [Lib.index, if_neg (by simp [List.isPrefixOf, h1]), h2, if_pos (by decide)]
theorem cut_hit (x : UInt8) (a b : List UInt8) (h : x ∉ a) : Lib.cut (a ++ x :: b) [x] = (a, b, true) := by
 unfold Lib.cut
 rw [idx_hit x a b h, if_pos (by omega)]
 simp
theorem cut_miss (x : UInt8) (s : List UInt8) (h : x ∉ s) : Lib.cut s [x] = (s, [], false) := by
 unfold Lib.cut
 rw [idx_miss x s h, if_neg (by decide)]
theorem splitN_join (x : UInt8) : ∀ (ws : List (List UInt8)) (K : Nat), ws ≠ [] → (∀ w, w ∈ ws → x ∉ w) → ws.length - 1 ≤ K → Lib.splitK [x] 0 K (joinL x ws) = ws
 | [], _, h, _, _ => absurd rfl h
 | [w], 0, _, _, _ => rfl
 | [w], K + 1, _, h, _ => by
  rw [joinL, Lib.splitK, idx_miss x w (h w (by simp)), if_pos (by decide)]
 | w :: v :: ws, 0, _, _, hk => by simp at hk
 | w :: v :: ws, K + 1, _, h, hk => by
  have ih := splitN_join x (v :: ws) K (by simp) (fun u hu => h u (List.mem_cons_of_mem _ hu)) (by simp at hk ⊢; omega)
  rw [joinL, Lib.splitK, idx_hit x w _ (h w (by simp)), if_neg (by simp <;> omega)]
  rw [show (w ++ x :: joinL x (v :: ws)).drop (((w.length : Int)).toNat + [x].length) = joinL x (v :: ws) by simp, ih]
  simp
theorem splitN_bs (x : UInt8) (ws : List (List UInt8)) (K : Nat) (hne : ws ≠ []) (h : ∀ w, w ∈ ws → x ∉ w) (hk : ws.length - 1 ≤ K) : Lib.splitB ⟨#[x]⟩ 0 K (bs (joinL x ws)) = ws.map bs := by
 have h1 := Lib.splitB_data ⟨#[x]⟩ 0 K (bs (joinL x ws))
 rw [show (ByteArray.mk #[x]).data.toList = [x] from rfl, show (bs (joinL x ws)).data.toList = joinL x ws from rfl, splitN_join x ws K hne h hk] at h1
 have h2 := congrArg (List.map bs) h1
 rw [List.map_map] at h2
 rw [← h2]
 conv => lhs; rw [← List.map_id (Lib.splitB ⟨#[x]⟩ 0 K (bs (joinL x ws)))]
 refine List.map_congr_left fun b _ => ?_
 show b = ⟨b.data.toList.toArray⟩
 simp
theorem parse_dec {M : Nat} (hM : M ≤ 18446744073709551615) (u : Nat) : ∀ r, u ≤ M → Lib.parseUintM M 0 (Lib.decDigits u ++ r) = Lib.parseUintM M u r := by
 induction u using Nat.strongRecOn with
 | _ u ih =>
  intro r hu
  by_cases h : u < 10
  ·rw [Lib.decDigits, dif_pos h, List.singleton_append, Lib.parseUintM]
   have e : (UInt8.ofNat (48 + u)).toNat = 48 + u := by simp; omega
   rw [e, if_pos (by omega), if_neg (by omega), if_neg (by omega)]
   congr 1; omega
  ·rw [Lib.decDigits, dif_neg h, List.append_assoc, ih (u / 10) (by omega) _ (by omega), List.singleton_append, Lib.parseUintM]
   have e : (UInt8.ofNat (48 + u % 10)).toNat = 48 + u % 10 := by simp; omega
   rw [e, if_pos (by omega), if_neg (by omega), if_neg (by omega)]
   congr 1; omega
theorem dec_ne (u : Nat) : Lib.decDigits u ≠ [] := fun h => by have := congrArg List.length h; rw [Lib.decDigits_length] at this; have := Lib.nDigits_pos u; simp at *; omega
theorem parseU {n : Int} (h : 0 ≤ n ∧ n ≤ 18446744073709551615) : Lib.parseUintB 64 (numL n) = .ok n.toNat := by
 rw [numL_pos h.1, Lib.parseUintB, if_neg (dec_ne _)]
 have := parse_dec (M := 2 ^ 64 - 1) (by decide) n.toNat [] (by omega)
 rw [List.append_nil] at this
 rw [this]; rfl
theorem num_z {n : Int} (h : 0 ≤ n) : 1 < (numL n).length → ¬ ((numL n).getD 0 0).toNat = 48 := by
 rw [numL_pos h]
 generalize n.toNat = u
 induction u using Nat.strongRecOn with
 | _ u ih =>
  intro h1 h2
  by_cases hu : u < 10
  ·rw [Lib.decDigits, dif_pos hu] at h1; simp at h1
  ·rw [Lib.decDigits, dif_neg hu] at h2
   by_cases h3 : u / 10 < 10
   ·rw [Lib.decDigits, dif_pos h3] at h2
    simp at h2; omega
   ·have h4 := ih (u / 10) (by omega) (by rw [Lib.decDigits_length, Lib.nDigits_big h3]; have := Lib.nDigits_pos (u / 10 / 10); omega)
    refine h4 ?_
    cases hd : Lib.decDigits (u / 10) with
    | nil => exact absurd hd (dec_ne _)
    | cons c r => rw [hd] at h2; exact h2
theorem lCut (s : List UInt8) (x : UInt8) (hl : s.length ≤ 100000000) {a b : List UInt8} {c : Bool} (hc : Lib.cut s [x] = (a, b, c)) : PCalls Tryz.prog 75 [.v (.string (bs s)), .v (.string ⟨#[x]⟩)] (.tup [.v (.string (bs a)), .v (.string (bs b)), .v (.bool c)]) := by
 refine pcalls_val ⟨_, rfl, rfl, by decide⟩ (u := .tuple #[.string (bs a), .string (bs b), .bool c]) (fun Z w => by simp only [Rep, Reps]; exact ⟨_, ⟨_, _, rfl, ⟨rfl, rfl⟩, _, _, rfl, ⟨rfl, rfl⟩, _, _, rfl, ⟨rfl, rfl⟩, rfl⟩, rfl⟩) fun Z w vals hz hv => ?_
 have e : vals = [.string (bs s), .string ⟨#[x]⟩] := by
  simp only [Reps, Rep] at hv
  obtain ⟨_, _, rfl, ⟨rfl, _⟩, _, _, rfl, ⟨rfl, _⟩, rfl⟩ := hv
  rfl
 subst e
 obtain ⟨m, hm⟩ := hz.gl.2.2
 have := Tryz.strings_Cut (bs s) ⟨#[x]⟩ m w (by rw [bs_size]; omega) hm
 rw [show (bs s).data.toList = s from rfl, show (ByteArray.mk #[x]).data.toList = [x] from rfl, hc] at this
 exact this.mono fun e w' ⟨he, n, hw⟩ => ⟨he, by rw [hw]; exact ⟨rfl, rfl, rfl, by simp, fun k hk => by simp⟩⟩
theorem lCutH (a b : List UInt8) (x : UInt8) (h : x ∉ a) (hl : a.length + b.length ≤ 10000000) : PCalls Tryz.prog 75 [.v (.string (bs (a ++ x :: b))), .v (.string ⟨#[x]⟩)] (.tup [.v (.string (bs a)), .v (.string (bs b)), .v (.bool true)]) :=
 lCut _ x (by simp; omega) (cut_hit x a b h)
theorem lCutM (s : List UInt8) (x : UInt8) (h : x ∉ s) (hl : s.length ≤ 10000000) : PCalls Tryz.prog 75 [.v (.string (bs s)), .v (.string ⟨#[x]⟩)] (.tup [.v (.string (bs s)), .v (.string (bs [])), .v (.bool false)]) :=
 lCut _ x (by omega) (cut_miss x s h)
theorem lParseU (n : Int) (h : 0 ≤ n ∧ n ≤ 18446744073709551615) : PCalls Tryz.prog 112 [.v (.string (bs (numL n))), .v (.int .i64 10), .v (.int .i64 64)] (.tup [.v (.int .u64 n), .v .nilIface]) := by
 refine pcalls_val ⟨_, rfl, rfl, by decide⟩ (u := .tuple #[.int .u64 n, .nilIface]) (fun Z w => by simp only [Rep, Reps]; exact ⟨_, ⟨_, _, rfl, ⟨rfl, rfl⟩, _, _, rfl, ⟨rfl, rfl⟩, rfl⟩, rfl⟩) fun Z w vals hz hv => ?_
 have e : vals = [.string (bs (numL n)), .int .i64 10, .int .i64 64] := by
  simp only [Reps, Rep] at hv
  obtain ⟨_, _, rfl, ⟨rfl, _⟩, _, _, rfl, ⟨rfl, _⟩, _, _, rfl, ⟨rfl, _⟩, rfl⟩ := hv
  rfl
 subst e
 have hl := numL_len (n := n) (by omega)
 have := Tryz.strconv_ParseUint_10_at64_ok (bs (numL n)) (by rw [bs_size]; omega) n.toNat (parseU h) w
 rw [show ((n.toNat : Nat) : Int) = n by omega] at this
 refine this.mono fun e w' ⟨he, hw⟩ => ⟨he, ?_⟩
 rcases hw with rfl | rfl
 ·exact Below.refl _ _
 ·exact Lib.bytesWorld_below _ _ _
theorem lSplitN (ws : List (List UInt8)) (hne : ws ≠ []) (h : ∀ w, w ∈ ws → (32 : UInt8) ∉ w) (h5 : ws.length ≤ 5) (hl : (joinL 32 ws).length ≤ 1000000) (hl5 : 5 ≤ (joinL 32 ws).length) : PCalls Tryz.prog 97 [.v (.string (bs (joinL 32 ws))), .v (.string ⟨#[32]⟩), .v (.int .i64 6)] (.view 1 (ws.map eT)) := by
 refine pcalls_new ⟨_, rfl, rfl, by decide⟩ fun Z w vals hz hv => ?_
 have e : vals = [.string (bs (joinL 32 ws)), .string ⟨#[32]⟩, .int .i64 6] := by
  simp only [Reps, Rep] at hv
  obtain ⟨_, _, rfl, ⟨rfl, _⟩, _, _, rfl, ⟨rfl, _⟩, _, _, rfl, ⟨rfl, _⟩, rfl⟩ := hv
  rfl
 subst e
 obtain ⟨m, hm⟩ := hz.gl.2.2
 have := Tryz.strings_SplitN (bs (joinL 32 ws)) ⟨#[32]⟩ 6 m w (by rw [bs_size]; omega) hm (by decide) (by decide) (by decide)
 rw [show min 6 ((bs (joinL 32 ws)).size + 1) = 6 by rw [bs_size]; omega, splitN_bs 32 ws (6 - 1) hne h (by omega)] at this
 refine this.mono fun e w' ⟨he, hw⟩ => ⟨_, he, ?_, ?_⟩
 ·rw [hw]; exact ⟨rfl, rfl, rfl, by simp, fun k hk => alloc_heap_old hk⟩
 ·simp only [Rep]
  refine ⟨ws.map fun l => Value.string (bs l), some ⟨w.heap.size, 0, none⟩, 6, ?_, by simp, by decide, ?_, by simp [big]; omega, ?_⟩
  ·have : ∀ l : List (List UInt8), Reps (fun b => Z b ∨ (w.heap.size ≤ b ∧ b < w'.heap.size)) w' (l.map eT) (l.map fun l => Value.string (bs l)) := by
    intro l
    induction l with
    | nil => rfl
    | cons y l ih => simp only [List.map_cons, Reps, eT, Rep]; exact ⟨_, _, rfl, ⟨rfl, rfl⟩, ih⟩
   exact this ws
  ·intro x hx
   obtain ⟨l, _, rfl⟩ := List.mem_map.1 hx
   exact ⟨rfl, fun y hy => by simp [vcells, Value.cells] at hy; subst hy; rfl⟩
  ·refine ⟨by simp; omega, .inr ⟨rfl, .inr ⟨Nat.le_refl _, by rw [hw]; simp⟩, fun k u hk i v hi => ?_⟩⟩
   rw [List.getElem?_map] at hk
   cases hkw : ws[k]? with
   | none => simp [hkw] at hk
   | some y =>
    simp only [hkw, Option.map_some, Option.some.injEq] at hk
    subst hk
    have hkl : k < ws.length := (List.getElem?_eq_some_iff.1 hkw).1
    cases i with
    | succ i => simp [vcells, Value.cells] at hi
    | zero =>
     simp [vcells, Value.cells] at hi
     subst hi
     rw [hw]
     simp only [World.cell?, Nat.mul_one, Nat.add_zero, Nat.zero_add]
     rw [alloc_heap_new]
     simp only [Lib.cellsOf]
     simp
     rw [List.getElem?_append_left (by simpa using hkl)]
     simp [hkw]
end Go.Proofs.YtckhjklcfagkoaaGreatDoor
namespace Go.Proofs.YtckhjklcfagkoaaGreatDoor
open Go Go.Ab
attribute [local irreducible] callK callF loopQ vstep vskip pickE hideP
open Go.RowKit
set_option maxRecDepth 100000
attribute [local go_sem] bs_inj ext_bs byteAt_bs
attribute [local irreducible] numL
end Go.Proofs.YtckhjklcfagkoaaGreatDoor
namespace Go.Proofs.YtckhjklcfagkoaaGreatDoor
open Go Go.Ab
attribute [local irreducible] callK callF loopQ vstep vskip pickE hideP
open Go.RowKit
set_option maxRecDepth 100000
attribute [local go_sem] eE rE eT eU bs_inj ext_bs byteAt_bs
attribute [local irreducible] numL
def argT (l : List Int) : Nat → List UInt8
 | 0 => []
 | j + 1 => argT l j ++ 32 :: numL (l.getD j default)
def decP (nm : List UInt8) (ns : List Int) (j : Nat) : List UInt8 := nm ++ argT ns j
attribute [local irreducible] argT decP
def crP (c : List UInt8) (i : Nat) : List UInt8 := [99, 114, 97, 115, 104, 32] ++ hexL (c.take i)
attribute [local irreducible] crP
end Go.Proofs.YtckhjklcfagkoaaGreatDoor
