/- Contracts of functions of this program, and the plain facts that they rest on. No conditions. -/
import Derived.Test.YtcnbngflehiphaaDoorD2
set_option linter.unusedSimpArgs false
set_option linter.unusedVariables false
namespace Go.Proofs.YtcnbngflehiphaaDoor
open Go Go.Ab
attribute [local irreducible] callK callF loopQ vstep vskip pickE hideP
open Go.RowKit
set_option maxRecDepth 100000
theorem below_grow (w : World) (k : Nat) (os : Array Obj) : Below w.heap.size w (Go.Sort.grow (w.drewN k) os) := by
 have e : (w.drewN k).heap = w.heap := by simp
 refine ⟨rfl, rfl, rfl, by simp [Go.Sort.grow, e], fun j hj => ?_⟩
 simp only [Go.Sort.grow, e]
 exact Array.getElem?_append_left hj
def numL (n : Nat) : List UInt8 := Lib.decDigits n
theorem c54 (n : Nat) (h : n ≤ 9000000) : PCalls Tryd.prog 54 [.v (.int .i64 n)] (.v (.string (bs (numL n)))) := by
 refine pcalls_val ⟨_, rfl, rfl, by decide⟩ (u := .string (bs (numL n))) (fun Z w => by simp [Rep, oneB]) fun Z w vals hz hv => ?_
 have e : vals = [.int .i64 n] := by
  simp only [Reps, Rep] at hv
  obtain ⟨_, _, rfl, ⟨rfl, _⟩, rfl⟩ := hv
  rfl
 subst e
 have := Tryd.strconv_Itoa n (by omega) (by omega) w hz.gl.2.1
 rw [show Lib.itoa (n : Int) = numL n by unfold Lib.itoa; rw [if_neg (by omega)]; simp [numL]] at this
 exact this.mono fun e w' ⟨he, k, os, hw⟩ => ⟨he, by rw [hw]; exact below_grow w k os⟩
def allZ (l : List UInt8) : Bool := l.all (fun x => x == 0)
theorem dw_nil (p : UInt8 → Bool) : ∀ l : List UInt8, l.dropWhile p = [] ↔ ∀ x, x ∈ l → p x = true
 | [] => by simp
 | y :: l => by
  rw [List.dropWhile_cons]
  cases h : p y
  ·simp [h]
  ·simp [h, dw_nil p l]
theorem dw_mem (p : UInt8 → Bool) : ∀ (l : List UInt8) x, x ∈ l → p x = false → x ∈ l.dropWhile p
 | [], _, h, _ => by simp at h
 | y :: l, x, h, hx => by
  rw [List.dropWhile_cons]
  cases hy : p y
  ·simpa using h
  ·rcases List.mem_cons.1 h with rfl | h
   ·rw [hx] at hy; cases hy
   ·simpa using dw_mem p l x h hx
theorem trim_nil (l : List UInt8) : (Lib.trimB l 0 = []) ↔ allZ l = true := by
 unfold Lib.trimB Lib.trimLeftB Lib.trimRightB allZ
 rw [dw_nil, List.all_eq_true]
 constructor
 ·intro h x hx
  cases hz : (x == 0)
  ·have := h x (List.mem_reverse.2 (dw_mem _ _ x (List.mem_reverse.2 hx) hz))
   rw [this] at hz; cases hz
  ·rfl
 ·intro h x hx
  exact h x (List.mem_reverse.1 ((List.dropWhile_suffix _).subset (List.mem_reverse.1 hx)))
theorem c56 (l : List UInt8) (h : l.length ≤ 9000000) : PCalls Tryd.prog 56 [.v (.string (bs l)), .v (.string ⟨#[0]⟩)] (.v (.string (bs (Lib.trimB l 0)))) := by
 refine pcalls_val ⟨_, rfl, rfl, by decide⟩ (u := .string (bs (Lib.trimB l 0))) (fun Z w => by simp [Rep, oneB]) fun Z w vals hz hv => ?_
 have e : vals = [.string (bs l), .string ⟨#[0]⟩] := by
  simp only [Reps, Rep] at hv
  obtain ⟨_, _, rfl, ⟨rfl, _⟩, _, _, rfl, ⟨rfl, _⟩, rfl⟩ := hv
  rfl
 subst e
 refine (Tryd.strings_Trim_one (bs l) 0 (by decide) w (by rw [bs_size]; omega)).mono fun e w' ⟨he, hw⟩ => ⟨he, ?_⟩
 rcases hw with rfl | rfl
 ·exact Below.refl _ _
 ·exact Below.drew (Below.refl _ _)
theorem d53f (s : List UInt8) (h0 : s.length ≠ 0) (hlen : s.length ≤ 1000000000) :
  ACalls Tryd.prog 53 [.loc 0 0, .p (.v (.string (bs s)))] [.bld 91 (.p (.v (.slice none 0 0)))] (.p (.tup [.v (.int .i64 s.length), .v .nilIface])) [.bld 91 (.sl 1 1 0 s.length), .byt 5 s] := by
 have := ac_writeString0 (P := Tryd.prog) (f := 53) ⟨_, rfl, rfl, by decide⟩ (fun b p v b2 s w hp h hl => Tryd.b_writeString b p v b2 s w hp h hl) (bs s) (by rw [bs_size]; exact h0) (by rw [bs_size]; omega)
 rw [bs_size] at this; exact this
theorem d53 (b s : List UInt8) (n : Nat) (hn : n = b.length) (h0 : n ≠ 0) (hlen : n + s.length ≤ 1000000000) :
  ACalls Tryd.prog 53 [.loc 0 0, .p (.v (.string (bs s)))] [.bld 91 (.sl 1 1 0 n), .byt 5 b] (.p (.tup [.v (.int .i64 s.length), .v .nilIface])) [.bld 91 (.sl 2 1 0 (b ++ s).length), .dead, .byt 5 (b ++ s)] := by
 subst hn
 have := ac_writeString (P := Tryd.prog) (f := 53) ⟨_, rfl, rfl, by decide⟩ (fun b p v b2 s w hp h hl => Tryd.b_writeString b p v b2 s w hp h hl) b (bs s) h0 (by rw [bs_size]; omega)
 rw [bs_size] at this; exact this
theorem d55 (b : List UInt8) (c : Int) (x : UInt8) (hx : c = x.toNat) (n : Nat) (hn : n = b.length) (h0 : n ≠ 0) (hlen : n ≤ 1000000000) :
  ACalls Tryd.prog 55 [.loc 0 0, .p (.v (.int .u8 c))] [.bld 91 (.sl 1 1 0 n), .byt 5 b] (.p (.v .nilIface)) [.bld 91 (.sl 2 1 0 (b ++ [x]).length), .dead, .byt 5 (b ++ [x])] := by
 subst hn
 have hb := x.toNat_lt
 have := ac_writeByte (P := Tryd.prog) (f := 55) ⟨_, rfl, rfl, by decide⟩ (fun b p v b2 c w hp h hl => Tryd.b_writeByte b p v b2 c w hp h hl) b c (by omega) h0 (by omega)
 rw [show UInt8.ofNat c.toNat = x by rw [hx]; simp] at this; exact this
theorem d57 (b : List UInt8) (n : Nat) (hn : n = b.length) (h0 : n ≠ 0) :
  ACalls Tryd.prog 57 [.loc 0 0] [.bld 91 (.sl 1 1 0 n), .byt 5 b] (.p (.v (.string (bs b)))) [.bld 91 (.sl 2 1 0 b.length), .dead, .byt 5 b] := by
 subst hn
 exact ac_string (P := Tryd.prog) (f := 57) ⟨_, rfl, rfl, by decide⟩ (fun b p v l w h hl => b_string Tryd.lays169 Tryd.Builder_Extra_169 b p v l w h hl) b h0
def digL : List UInt8 := [48, 49, 50, 51, 52, 53, 54, 55, 56, 57, 97, 98, 99, 100, 101, 102]
def hexDig (w s : Nat) : UInt8 := digL.getD (w / 2 ^ s % 16) 0
def hexM (w : Nat) : Nat → List UInt8
 | 0 => []
 | j + 1 => hexM w j ++ [hexDig w (60 - 4 * j)]
def wordsM (l : List UInt8) (i : Nat) : Nat → List UInt8
 | 0 => []
 | k + 1 => wordsM l i k ++ [32] ++ hexM (wordU l (i * 64 + k * 8) 8) 16
def rowM (l : List UInt8) (i : Nat) : List UInt8 := if allZ (lineM l i) then [] else numL i ++ [58] ++ wordsM l i 8 ++ [10]
def linesM (l : List UInt8) : Nat → List UInt8
 | 0 => []
 | i + 1 => linesM l i ++ rowM l i
def headM (l : List UInt8) : List UInt8 := [108, 105, 110, 101, 115, 32] ++ numL (l.length / 64) ++ [10]
def textM (l : List UInt8) : List UInt8 := headM l ++ linesM l (l.length / 64)
end Go.Proofs.YtcnbngflehiphaaDoor