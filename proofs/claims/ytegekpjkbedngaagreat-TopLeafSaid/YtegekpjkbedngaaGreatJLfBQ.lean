/- Contracts of functions of this program, and the plain facts that they rest on. No conditions. -/
import Derived.Test.YtegekpjkbedngaaGreatJDvFQ
set_option linter.unusedSectionVars false
set_option linter.unusedSimpArgs false
set_option linter.unusedVariables false
namespace Go.Proofs.YtegekpjkbedngaaGreat
set_option maxHeartbeats 4000000
set_option maxRecDepth 100000
open Go Go.Ab
attribute [local irreducible] callK callF loopQ vstep vskip pickE hideP
def encS : List Nat → Nat
 | [] => 0
 | s :: l => s + 16 * encS l
def perm (sl : List Nat) (c : Nat) : Nat := sl.length + 16 * encS sl + c % 4096 * 4503599627370496
def Sl (sl : List Nat) : Prop := sl.Nodup ∧ (∀ s, s ∈ sl → s < 12) ∧ sl.length ≤ 12
theorem encS_lt : ∀ {l : List Nat}, (∀ s, s ∈ l → s < 12) → encS l < 16 ^ l.length
 | [], _ => by simp [encS]
 | s :: l, h => by
  have h1 := encS_lt (l := l) fun s hs => h s (List.mem_cons_of_mem _ hs)
  have h2 := h s List.mem_cons_self
  rw [encS, List.length_cons, Nat.pow_succ]; omega
theorem encS_dig : ∀ {l : List Nat} (i : Nat), (∀ s, s ∈ l → s < 12) → encS l / 16 ^ i % 16 = l.getD i 0
 | [], i, _ => by simp [encS]
 | s :: l, 0, h => by
  have h2 := h s List.mem_cons_self
  rw [encS, Nat.pow_zero, Nat.div_one, Nat.add_mul_mod_self_left]; simp; omega
 | s :: l, i + 1, h => by
  have h2 := h s List.mem_cons_self
  have h1 := encS_dig (l := l) i fun s hs => h s (List.mem_cons_of_mem _ hs)
  rw [encS, Nat.pow_succ, Nat.mul_comm (16 ^ i), ← Nat.div_div_eq_div_mul, Nat.add_mul_div_left _ _ (by decide : 0 < 16), Nat.div_eq_of_lt (show s < 16 by omega), Nat.zero_add, h1]
  rfl
theorem encS_top {l : List Nat} (h : Sl l) : encS l < 281474976710656 := by
 have h1 := encS_lt h.2.1
 have h2 : (16 : Nat) ^ l.length ≤ 16 ^ 12 := Nat.pow_le_pow_right (by decide) h.2.2
 have h3 : (16 : Nat) ^ 12 = 281474976710656 := by decide
 omega
theorem perm_lt {l : List Nat} (h : Sl l) (c : Nat) : perm l c < 18446744073709551616 := by
 have h1 := encS_top h
 have h2 := h.2.2
 unfold perm; omega
theorem perm_n {l : List Nat} (h : Sl l) (c : Nat) : perm l c % 16 = l.length := by
 have h1 := encS_top h
 have h2 := h.2.2
 unfold perm; omega
theorem perm_c {l : List Nat} (h : Sl l) (c : Nat) : perm l c / 4503599627370496 = c % 4096 := by
 have h1 := encS_top h
 have h2 := h.2.2
 unfold perm; omega
theorem perm_dig {l : List Nat} (h : Sl l) (c : Nat) {i : Nat} (hi : i < 12) : perm l c / 2 ^ (4 + 4 * i) % 16 = l.getD i 0 := by
 have h1 := encS_top h
 have h2 := h.2.2
 have e1 : perm l c / 16 = encS l + c % 4096 * 281474976710656 := by unfold perm; omega
 have e2 : (2 : Nat) ^ (4 + 4 * i) = 16 * 16 ^ i := by rw [Nat.pow_add, Nat.pow_mul]
 have e3 : c % 4096 * 281474976710656 = c % 4096 * 16 ^ (11 - i) * 16 * 16 ^ i := by
  rw [show (281474976710656 : Nat) = 16 ^ (11 - i + 1 + i) by rw [show 11 - i + 1 + i = 12 by omega], Nat.pow_add, Nat.pow_succ]; simp only [Nat.mul_assoc]
 rw [e2, ← Nat.div_div_eq_div_mul, e1, e3, Nat.add_mul_div_right _ _ (Nat.pow_pos (by decide)), Nat.add_mul_mod_self_right]
 exact encS_dig i h.2.1
theorem encS_s : ∀ (l : List Nat) {i : Nat}, i < l.length → encS (l.take (i + 1)) = encS (l.take i) + l.getD i default * 16 ^ i
 | [], i, h => by simp at h
 | s :: l, 0, h => by simp [encS]
 | s :: l, i + 1, h => by
  have h1 := encS_s l (i := i) (by simpa using h)
  rw [List.take_succ_cons, List.take_succ_cons, encS, encS, h1, Nat.pow_succ]
  show _ = s + 16 * encS (l.take i) + l.getD i default * (16 ^ i * 16)
  rw [Nat.mul_add, ← Nat.mul_assoc, Nat.mul_comm 16 (l.getD i default), Nat.mul_assoc, Nat.mul_comm 16 (16 ^ i)]; omega
def pmI (l : List Nat) (c i : Nat) : Nat := l.length + 16 * encS (l.take i) + c % 4096 * 4503599627370496
theorem pmI_0 (l : List Nat) (c : Nat) : pmI l c 0 = l.length + c % 4096 * 4503599627370496 := by simp [pmI, encS]
theorem pmI_n (l : List Nat) (c : Nat) : pmI l c l.length = perm l c := by rw [pmI, List.take_length]; rfl
theorem sl_take {l : List Nat} (h : Sl l) (i : Nat) : Sl (l.take i) := ⟨h.1.sublist (List.take_sublist _ _), fun s hs => h.2.1 s (List.mem_of_mem_take hs), by rw [List.length_take]; have := h.2.2; omega⟩
theorem or_mid (lo s hi k : Nat) (h1 : lo < 2 ^ k) (hk : lo + s * 2 ^ k < 2 ^ 52) : (lo + hi * 2 ^ 52) ||| (s * 2 ^ k) = lo + s * 2 ^ k + hi * 2 ^ 52 := by
 have a1 := Nat.shiftLeft_add_eq_or_of_lt (show lo < 2 ^ 52 by omega) hi
 have a2 := Nat.shiftLeft_add_eq_or_of_lt h1 s
 have a3 := Nat.shiftLeft_add_eq_or_of_lt hk hi
 rw [Nat.shiftLeft_eq] at a1 a2 a3
 rw [Nat.add_comm lo, a1, Nat.or_assoc, Nat.or_comm lo, ← a2, Nat.add_comm (s * 2 ^ k) lo, ← a3]; omega
theorem pmI_s {l : List Nat} (h : Sl l) (c : Nat) {i : Nat} (hi : i < l.length) : pmI l c i ||| (l.getD i default * 2 ^ (4 + 4 * i)) = pmI l c (i + 1) := by
 have h1 := encS_top (sl_take h (i + 1))
 have h4 := encS_lt (sl_take h i).2.1
 have h2 := h.2.2
 have hs := encS_s l hi
 have e2 : (2 : Nat) ^ (4 + 4 * i) = 16 * 16 ^ i := by rw [Nat.pow_add, Nat.pow_mul]
 rw [List.length_take, show min i l.length = i by omega] at h4
 generalize hx : l.getD i default = x at *
 have e3 : x * (16 * 16 ^ i) = 16 * (x * 16 ^ i) := by rw [← Nat.mul_assoc, Nat.mul_comm x 16, Nat.mul_assoc]
 have := or_mid (l.length + 16 * encS (l.take i)) x (c % 4096) (4 + 4 * i) (by rw [e2]; omega) (by rw [e2, e3]; omega)
 unfold pmI
 rw [hs, show (4503599627370496 : Nat) = 2 ^ 52 from rfl, this, e2, e3]; omega
theorem pmI_lt {l : List Nat} (h : Sl l) (c i : Nat) : pmI l c i < 18446744073709551616 := by
 have h1 := encS_top (sl_take h i)
 have h2 := h.2.2
 unfold pmI; omega
theorem or_u64 (a b r : Nat) (h : a ||| b = r) (ha : a < 18446744073709551616) (hb : b < 18446744073709551616) (hr : r < 18446744073709551616) : IntKind.u64.wrap ((BitVec.ofInt IntKind.u64.bits (a : Int) ||| BitVec.ofInt IntKind.u64.bits (b : Int)).toNat : Int) = (r : Int) := by
 rw [show IntKind.u64.bits = 64 from rfl, BitVec.toNat_or, BitVec.ofInt_natCast, BitVec.ofInt_natCast, BitVec.toNat_ofNat, BitVec.toNat_ofNat, Nat.mod_eq_of_lt (by omega), Nat.mod_eq_of_lt (by omega), h]
 exact u64w (by omega) (by omega)
theorem sl_digit {l : List Nat} (h : Sl l) {i : Nat} (hi : i < l.length) : l.getD i default < 12 := by
 rw [List.getD_eq_getElem?_getD, List.getElem?_eq_getElem hi]; exact h.2.1 _ (List.getElem_mem hi)
theorem dig_lt {l : List Nat} (h : Sl l) {i : Nat} (hi : i < l.length) : l.getD i default * 2 ^ (4 + 4 * i) < 18446744073709551616 := by
 have h1 := sl_digit h hi
 have h2 := h.2.2
 have e2 : (2 : Nat) ^ (4 + 4 * i) ≤ 2 ^ 48 := Nat.pow_le_pow_right (by decide) (by omega)
 have h3 : l.getD i default * 2 ^ (4 + 4 * i) ≤ 12 * 2 ^ 48 := Nat.mul_le_mul (by omega) e2
 have e4 : 12 * 2 ^ 48 < 18446744073709551616 := by decide
 omega
attribute [local go_sem] eNd
theorem kOrder (l : List Nat) (h : Sl l) (c : Nat) (hc : c ≤ 1000000) : PCalls Tryz.prog 22 [.view 1 (l.map eNd), .v (.int .u64 c)] (.v (.int .u64 (perm l c : Nat))) := by
 refine yD ⟨_, rfl, rfl, by decide⟩ fun hf => ?_
 simp only [go_sem, big] at hf
 refine yB (E := E) (fn := Tryz.f22) 32 [.tmp 4] rfl rfl rfl rfl (by decide) rfl ?_
 have h2 := h.2.2
 have e1 := u64w (x := (l.length : Int)) (by omega) (by omega)
 have e2 : (c : Int).tmod 4096 = ((c % 4096 : Nat) : Int) := rfl
 have e3 := u64w (x := ((c % 4096 : Nat) : Int)) (by omega) (by omega)
 have e4 : IntKind.u64.wrap (((c % 4096 : Nat) : Int) * 4503599627370496) = ((c % 4096 * 4503599627370496 : Nat) : Int) := (u64w (by omega) (by omega)).trans (by omega)
 have e5 := or_u64 l.length (c % 4096 * 4503599627370496) (pmI l c 0) (by
  rw [pmI_0]
  have := Nat.shiftLeft_add_eq_or_of_lt (show l.length < 2 ^ 52 by omega) (c % 4096)
  rw [Nat.shiftLeft_eq] at this
  rw [Nat.or_comm, show (4503599627370496 : Nat) = 2 ^ 52 from rfl, ← this]; omega) (by omega) (by omega) (pmI_lt h c 0)
 repeat' (first
  | (with_reducible first | apply zY | apply zT | apply zM | apply zN | apply zO | refine chk_ok (by kernel_rfl) ?_)
  | ((with_reducible first | apply zP | apply zQ | apply zR | apply zL) <;> intro h <;> try (exfalso; first | omega | exact h rfl | (revert h; decide) | (cases h; done)))
  | ((with_reducible show False); omega)
  | ((first | (with_reducible first | apply zW | apply zV | apply zU | apply zS | apply zX | show VX _ _ _ _ _ _ _ | show vstep _ _ _ _ _ | show vskip _ _ _ | show withV _ _) | ((with_reducible show endA _ _ _ _ _ _ _); simp -implicitDefEqProofs only [endA]) | (with_reducible first | refine zB default (by first | omega | (simp only [LN, e1, e2, e3, e4, e5]; omega)) (by first | omega | (simp only [LN, e1, e2, e3, e4, e5]; omega)) ?_ | refine zC default (by first | omega | (simp only [LN, e1, e2, e3, e4, e5]; omega)) ?_ | refine And.intro (by first | decide | omega | assumption | (simp only [LN, e1, e2, e3, e4, e5]; omega)) ?_) | ((with_reducible show pickE _ _ _); first | refine zA _ ⟨by omega, by rfl⟩ ?_ | refine zA _ (by rfl) ?_) | fail); try simp -dsimp -implicitDefEqProofs (maxSteps := 1000000) (disch := first | omega | (simp only [LN, e1, e2, e3, e4, e5]; omega)) only [go_sem, e1, e2, e3, e4, e5])
  | fail)
 refine r_loopA (α := Nat) [15, 16] (fun i b => [(17, aI i), (5, .p (.v (.int .u64 (pmI l c i : Nat))))]) (fun i b => []) (fun i => []) (fun i => i ≤ l.length) (fun i => l.length - i) (0) ?h0_1 ?hs0_1 ?I_1 ?hI_1 ?round_1
 case hI_1 => intro x; (simp -dsimp -implicitDefEqProofs (maxSteps := 1000000) (disch := first | omega | (simp only [LN]; omega)) only [go_sem]) <;> exact rfl
 case hs0_1 => refine wk_auto ?_; (simp -dsimp -implicitDefEqProofs (maxSteps := 1000000) (disch := first | omega | (simp only [LN]; omega)) only [go_sem]) <;> (try omega)
 case h0_1 => exact Nat.zero_le _
 case round_1 =>
  intro i hi
  by_cases hi2 : i < l.length
  ·have hs := or_u64 _ _ _ (pmI_s h c hi2) (pmI_lt h c i) (dig_lt h hi2) (pmI_lt h c (i + 1))
   have hd := sl_digit h hi2
   have dl := dig_lt h hi2
   generalize hxx : l.getD i default = x at *
   have w3 : IntKind.i64.wrap ((i : Int) + 1) = ((i + 1 : Nat) : Int) := by rw [IntKind.wrap_i64]; push_cast; omega
   have v1 : IntKind.i64.wrap (4 * (i : Int)) = 4 * (i : Int) := by rw [IntKind.wrap_i64]; omega
   have v2 : IntKind.i64.wrap (4 + 4 * (i : Int)) = 4 + 4 * (i : Int) := by rw [IntKind.wrap_i64]; omega
   have v3 : (4 + 4 * (i : Int)).toNat = 4 + 4 * i := by omega
   have v4 : min (4 + 4 * i) 64 = 4 + 4 * i := by omega
   have v5 := u64w (x := (x : Int)) (by omega) (by omega)
   have v6 : IntKind.u64.wrap ((x : Int) * 2 ^ (4 + 4 * i)) = ((x * 2 ^ (4 + 4 * i) : Nat) : Int) := by
    rw [show (x : Int) * 2 ^ (4 + 4 * i) = ((x * 2 ^ (4 + 4 * i) : Nat) : Int) by push_cast; rfl]
    generalize x * 2 ^ (4 + 4 * i) = y at *
    exact u64w (by omega) (by omega)
   repeat' (first
    | (with_reducible first | apply zY | apply zT | apply zM | apply zN | apply zO | refine chk_ok (by kernel_rfl) ?_)
    | ((with_reducible first | apply zP | apply zQ | apply zR | apply zL) <;> intro h <;> try (exfalso; first | omega | exact h rfl | (revert h; decide) | (cases h; done)))
    | ((with_reducible show False); omega)
    | ((first | (with_reducible first | apply zW | apply zV | apply zU | apply zS | apply zX | show VX _ _ _ _ _ _ _ | show vstep _ _ _ _ _ | show vskip _ _ _ | show withV _ _) | ((with_reducible show endA _ _ _ _ _ _ _); simp -implicitDefEqProofs only [endA]) | (with_reducible first | refine zB default (by first | omega | (simp only [LN, hxx, v1, v2, v3, v4, v5, v6, hs]; omega)) (by first | omega | (simp only [LN, hxx, v1, v2, v3, v4, v5, v6, hs]; omega)) ?_ | refine zC default (by first | omega | (simp only [LN, hxx, v1, v2, v3, v4, v5, v6, hs]; omega)) ?_ | refine And.intro (by first | decide | omega | assumption | (simp only [LN, hxx, v1, v2, v3, v4, v5, v6, hs]; omega)) ?_) | ((with_reducible show pickE _ _ _); first | refine zA _ ⟨by omega, by rfl⟩ ?_ | refine zA _ (by rfl) ?_) | fail); try simp -dsimp -implicitDefEqProofs (maxSteps := 1000000) (disch := first | omega | (simp only [LN, hxx, v1, v2, v3, v4, v5, v6, hs]; omega)) only [go_sem, hxx, v1, v2, v3, v4, v5, v6, hs])
    | fail)
   all_goals first | omega | ((refine zZ (i + 1) ?_ ?_ ?_; (omega); (show _ < _; omega); (simp -dsimp -implicitDefEqProofs (maxSteps := 1000000) (disch := first | omega | (simp only [LN, w3, hxx, v1, v2, v3, v4, v5, v6, hs]; omega)) only [go_sem, w3, hxx, v1, v2, v3, v4, v5, v6, hs]; try trivial)))
  ·obtain rfl : i = l.length := by omega
   have hpn := pmI_n l c
   repeat' (first
    | (with_reducible first | apply zY | apply zT | apply zM | apply zN | apply zO | refine chk_ok (by kernel_rfl) ?_)
    | ((with_reducible first | apply zP | apply zQ | apply zR | apply zL) <;> intro h <;> try (exfalso; first | omega | exact h rfl | (revert h; decide) | (cases h; done)))
    | ((with_reducible show False); omega)
    | ((first | (with_reducible first | apply zW | apply zV | apply zU | apply zS | apply zX | show VX _ _ _ _ _ _ _ | show vstep _ _ _ _ _ | show vskip _ _ _ | show withV _ _) | ((with_reducible show endA _ _ _ _ _ _ _); simp -implicitDefEqProofs only [endA]) | (with_reducible first | refine zB default (by first | omega | (simp only [LN, hpn]; omega)) (by first | omega | (simp only [LN, hpn]; omega)) ?_ | refine zC default (by first | omega | (simp only [LN, hpn]; omega)) ?_ | refine And.intro (by first | decide | omega | assumption | (simp only [LN, hpn]; omega)) ?_) | ((with_reducible show pickE _ _ _); first | refine zA _ ⟨by omega, by rfl⟩ ?_ | refine zA _ (by rfl) ?_) | fail); try simp -dsimp -implicitDefEqProofs (maxSteps := 1000000) (disch := first | omega | (simp only [LN, hpn]; omega)) only [go_sem, hpn])
    | fail)
   all_goals first | omega | rfl
end Go.Proofs.YtegekpjkbedngaaGreat
namespace Go.Proofs.YtegekpjkbedngaaGreat
set_option maxHeartbeats 4000000
set_option maxRecDepth 100000
open Go Go.Ab
attribute [local irreducible] callK callF loopQ vstep vskip pickE hideP
theorem lt12 {k : Nat} (h : k < 12) : k = 0 ∨ k = 1 ∨ k = 2 ∨ k = 3 ∨ k = 4 ∨ k = 5 ∨ k = 6 ∨ k = 7 ∨ k = 8 ∨ k = 9 ∨ k = 10 ∨ k = 11 := by omega
def sB (l : List Nat) (i j : Nat) : Bool := decide (j ∈ l.take i)
theorem sB_0 (l : List Nat) (j : Nat) : sB l 0 j = false := by simp [sB]
theorem sB_t {l : List Nat} {i : Nat} (hi : i < l.length) : sB l (i + 1) (l.getD i default) = true := by
 unfold sB; rw [yE default hi]; simp
theorem sB_o {l : List Nat} {i j : Nat} (hi : i < l.length) (h : j ≠ l.getD i default) : sB l (i + 1) j = sB l i j := by
 unfold sB; rw [yE default hi]; congr 1; rw [List.mem_append, List.mem_singleton]; exact propext ⟨fun h' => h'.resolve_right h, .inl⟩
theorem sB_f {l : List Nat} (h : Sl l) {i : Nat} (hi : i < l.length) : sB l i (l.getD i default) = false := by
 unfold sB
 rw [decide_eq_false_iff_not]
 intro hm
 have h1 := h.1
 rw [← List.take_append_drop (i + 1) l, yE default hi] at h1
 have := (List.nodup_append.1 ((List.nodup_append.1 h1).1)).2.2 _ hm (l.getD i default) (by simp)
 exact this rfl
theorem take_ge {l : List Nat} {i : Nat} (h : l.length ≤ i) : l.take i = l := List.take_of_length_le h
theorem and15 (a : Nat) (h : a < 18446744073709551616) : IntKind.u64.wrap ((BitVec.ofInt IntKind.u64.bits (a : Int) &&& BitVec.ofInt IntKind.u64.bits 15).toNat : Int) = ((a % 16 : Nat) : Int) := by
 have e : (BitVec.ofInt 64 (a : Int) &&& BitVec.ofInt 64 15).toNat = a % 16 := by
  rw [BitVec.toNat_and, show (15 : Int) = ((15 : Nat) : Int) from rfl, BitVec.ofInt_natCast, BitVec.ofInt_natCast, BitVec.toNat_ofNat, BitVec.toNat_ofNat, Nat.mod_eq_of_lt (by omega), Nat.mod_eq_of_lt (by omega), show 15 = 2 ^ 4 - 1 from rfl, Nat.and_two_pow_sub_one_eq_mod]
 rw [show IntKind.u64.bits = 64 from rfl, e]; exact u64w (by omega) (by omega)
attribute [local go_sem] eNd
theorem kParse (l : List Nat) (hs : Sl l) (c : Nat) : PCalls Tryz.prog 53 [.v (.int .u64 (perm l c : Nat))] (.tup [.view 1 (l.map eNd), .v (.bool true)]) := by
 refine yB (E := E) (fn := Tryz.f53) 44 [.tmp 2, .tmp 3] rfl rfl rfl rfl (by decide) rfl ?_
 have h2 := hs.2.2
 have hp := perm_lt hs c
 have e1 := and15 (perm l c) hp
 rw [perm_n hs c] at e1
 have e2 := i64w (x := (l.length : Int)) (by omega) (by omega)
 repeat' (first
  | (with_reducible first | apply zY | apply zT | apply zM | apply zN | apply zO | refine chk_ok (by kernel_rfl) ?_)
  | ((with_reducible first | apply zP | apply zQ | apply zR | apply zL) <;> intro h <;> try (exfalso; first | omega | exact h rfl | (revert h; decide) | (cases h; done)))
  | ((with_reducible show False); omega)
  | ((first | (with_reducible first | apply zW | apply zV | apply zU | apply zS | apply zX | show VX _ _ _ _ _ _ _ | show vstep _ _ _ _ _ | show vskip _ _ _ | show withV _ _) | ((with_reducible show endA _ _ _ _ _ _ _); simp -implicitDefEqProofs only [endA]) | (with_reducible first | refine zB default (by first | omega | (simp only [LN, e1, e2]; omega)) (by first | omega | (simp only [LN, e1, e2]; omega)) ?_ | refine zC default (by first | omega | (simp only [LN, e1, e2]; omega)) ?_ | refine And.intro (by first | decide | omega | assumption | (simp only [LN, e1, e2]; omega)) ?_) | ((with_reducible show pickE _ _ _); first | refine zA _ ⟨by omega, by rfl⟩ ?_ | refine zA _ (by rfl) ?_) | fail); try simp -dsimp -implicitDefEqProofs (maxSteps := 1000000) (disch := first | omega | (simp only [LN, e1, e2]; omega)) only [go_sem, e1, e2])
  | fail)
 all_goals try omega
 refine r_loopA (α := Nat) [0, 4, 6] (fun i b => [(14, aI i), (5, .sl b 1 0 (min i l.length))]) (fun i b => [(6, .var [.p (.v (.bool (sB l i 0))), .p (.v (.bool (sB l i 1))), .p (.v (.bool (sB l i 2))), .p (.v (.bool (sB l i 3))), .p (.v (.bool (sB l i 4))), .p (.v (.bool (sB l i 5))), .p (.v (.bool (sB l i 6))), .p (.v (.bool (sB l i 7))), .p (.v (.bool (sB l i 8))), .p (.v (.bool (sB l i 9))), .p (.v (.bool (sB l i 10))), .p (.v (.bool (sB l i 11))), .p (.v (.bool (sB l i 12))), .p (.v (.bool (sB l i 13))), .p (.v (.bool (sB l i 14))), .p (.v (.bool (sB l i 15)))])]) (fun i => [.arr 1 ((l.take i).map eNd)]) (fun i => i ≤ 12) (fun i => 12 - i) (0) ?h0_1 ?hs0_1 ?I_1 ?hI_1 ?round_1
 case hI_1 => intro x; (simp -dsimp -implicitDefEqProofs (maxSteps := 1000000) (disch := first | omega | (simp only [LN]; omega)) only [go_sem]) <;> exact rfl
 case hs0_1 => refine wk_auto ?_; (simp -dsimp -implicitDefEqProofs (maxSteps := 1000000) (disch := first | omega | (simp only [LN, sB_0]; omega)) only [go_sem, sB_0]) <;> (try omega)
 case h0_1 => exact Nat.zero_le _
 case round_1 =>
  intro i hi
  have w3 : IntKind.i64.wrap ((i : Int) + 1) = ((i + 1 : Nat) : Int) := by rw [IntKind.wrap_i64]; push_cast; omega
  by_cases hi2 : i < 12
  ·have hd := perm_dig hs c hi2
   have v1 : IntKind.i64.wrap (4 * (i : Int)) = 4 * (i : Int) := by rw [IntKind.wrap_i64]; omega
   have v2 : IntKind.i64.wrap (4 + 4 * (i : Int)) = 4 + 4 * (i : Int) := by rw [IntKind.wrap_i64]; omega
   have v3 : (4 + 4 * (i : Int)).toNat = 4 + 4 * i := by omega
   have v4 : min (4 + 4 * i) 64 = 4 + 4 * i := by omega
   have hle : perm l c / 2 ^ (4 + 4 * i) ≤ perm l c := Nat.div_le_self _ _
   have v5 : (perm l c : Int) / 2 ^ (4 + 4 * i) = ((perm l c / 2 ^ (4 + 4 * i) : Nat) : Int) := by push_cast; rfl
   have v6 := and15 (perm l c / 2 ^ (4 + 4 * i)) (by omega)
   rw [hd] at v6
   generalize perm l c / 2 ^ (4 + 4 * i) = y at *
   have v7 := u64w (x := (y : Int)) (by omega) (by omega)
   by_cases hi3 : i < l.length
   ·have hx := sl_digit hs hi3
    have ht := sB_t hi3
    have ho := fun j => sB_o (j := j) hi3
    have hf := sB_f hs hi3
    have htk := yE default hi3
    rw [show l.getD i 0 = l.getD i default from rfl] at v6
    have hm : min i l.length = i := by omega
    have hm2 : min (i + 1) l.length = i + 1 := by omega
    generalize hxx : l.getD i default = x at *
    rcases lt12 hx with rfl | rfl | rfl | rfl | rfl | rfl | rfl | rfl | rfl | rfl | rfl | rfl
    all_goals
     repeat' (first
      | (with_reducible first | apply zY | apply zT | apply zM | apply zN | apply zO | refine chk_ok (by kernel_rfl) ?_)
      | ((with_reducible first | apply zP | apply zQ | apply zR | apply zL) <;> intro h <;> try (exfalso; first | omega | exact h rfl | (revert h; decide) | (cases h; done)))
      | ((with_reducible show False); omega)
      | ((first | (with_reducible first | apply zW | apply zV | apply zU | apply zS | apply zX | show VX _ _ _ _ _ _ _ | show vstep _ _ _ _ _ | show vskip _ _ _ | show withV _ _) | ((with_reducible show endA _ _ _ _ _ _ _); simp -implicitDefEqProofs only [endA]) | (with_reducible first | refine zB default (by first | omega | (simp only [LN, v1, v2, v3, v4, v5, v6, v7, e2, hf, hm]; omega)) (by first | omega | (simp only [LN, v1, v2, v3, v4, v5, v6, v7, e2, hf, hm]; omega)) ?_ | refine zC default (by first | omega | (simp only [LN, v1, v2, v3, v4, v5, v6, v7, e2, hf, hm]; omega)) ?_ | refine And.intro (by first | decide | omega | assumption | (simp only [LN, v1, v2, v3, v4, v5, v6, v7, e2, hf, hm]; omega)) ?_) | ((with_reducible show pickE _ _ _); first | refine zA _ ⟨by omega, by rfl⟩ ?_ | refine zA _ (by rfl) ?_) | fail); try simp -dsimp -implicitDefEqProofs (maxSteps := 1000000) (disch := first | omega | (simp only [LN, v1, v2, v3, v4, v5, v6, v7, e2, hf, hm]; omega)) only [go_sem, v1, v2, v3, v4, v5, v6, v7, e2, hf, hm])
      | fail)
     all_goals first | omega | ((refine zZ (i + 1) ?_ ?_ ?_; (omega); (show _ < _; omega); (simp -dsimp -implicitDefEqProofs (maxSteps := 1000000) (disch := first | omega | (simp only [LN, w3, ht, ho, htk, hm2, List.map_append]; omega)) only [go_sem, w3, ht, ho, htk, hm2, List.map_append]; try trivial)))
   ·have hz : l.getD i 0 = 0 := by rw [List.getD_eq_getElem?_getD, List.getElem?_eq_none (by omega)]; rfl
    rw [hz] at v6
    have hm : min i l.length = l.length := by omega
    have hm2 : min (i + 1) l.length = l.length := by omega
    have ht := take_ge (l := l) (i := i) (by omega)
    have ht2 := take_ge (l := l) (i := i + 1) (by omega)
    have hb : ∀ j, sB l (i + 1) j = sB l i j := fun j => by unfold sB; rw [ht, ht2]
    repeat' (first
     | (with_reducible first | apply zY | apply zT | apply zM | apply zN | apply zO | refine chk_ok (by kernel_rfl) ?_)
     | ((with_reducible first | apply zP | apply zQ | apply zR | apply zL) <;> intro h <;> try (exfalso; first | omega | exact h rfl | (revert h; decide) | (cases h; done)))
     | ((with_reducible show False); omega)
     | ((first | (with_reducible first | apply zW | apply zV | apply zU | apply zS | apply zX | show VX _ _ _ _ _ _ _ | show vstep _ _ _ _ _ | show vskip _ _ _ | show withV _ _) | ((with_reducible show endA _ _ _ _ _ _ _); simp -implicitDefEqProofs only [endA]) | (with_reducible first | refine zB default (by first | omega | (simp only [LN, v1, v2, v3, v4, v5, v6, v7, e2, hm]; omega)) (by first | omega | (simp only [LN, v1, v2, v3, v4, v5, v6, v7, e2, hm]; omega)) ?_ | refine zC default (by first | omega | (simp only [LN, v1, v2, v3, v4, v5, v6, v7, e2, hm]; omega)) ?_ | refine And.intro (by first | decide | omega | assumption | (simp only [LN, v1, v2, v3, v4, v5, v6, v7, e2, hm]; omega)) ?_) | ((with_reducible show pickE _ _ _); first | refine zA _ ⟨by omega, by rfl⟩ ?_ | refine zA _ (by rfl) ?_) | fail); try simp -dsimp -implicitDefEqProofs (maxSteps := 1000000) (disch := first | omega | (simp only [LN, v1, v2, v3, v4, v5, v6, v7, e2, hm]; omega)) only [go_sem, v1, v2, v3, v4, v5, v6, v7, e2, hm])
     | fail)
    all_goals first | omega | ((refine zZ (i + 1) ?_ ?_ ?_; (omega); (show _ < _; omega); (simp -dsimp -implicitDefEqProofs (maxSteps := 1000000) (disch := first | omega | (simp only [LN, w3, hb, ht, ht2, hm, hm2]; omega)) only [go_sem, w3, hb, ht, ht2, hm, hm2]; try trivial)))
  ·obtain rfl : i = 12 := by omega
   have ht := take_ge (l := l) (i := 12) h2
   have hm : min 12 l.length = l.length := by omega
   repeat' (first
    | (with_reducible first | apply zY | apply zT | apply zM | apply zN | apply zO | refine chk_ok (by kernel_rfl) ?_)
    | ((with_reducible first | apply zP | apply zQ | apply zR | apply zL) <;> intro h <;> try (exfalso; first | omega | exact h rfl | (revert h; decide) | (cases h; done)))
    | ((with_reducible show False); omega)
    | ((first | (with_reducible first | apply zW | apply zV | apply zU | apply zS | apply zX | show VX _ _ _ _ _ _ _ | show vstep _ _ _ _ _ | show vskip _ _ _ | show withV _ _) | ((with_reducible show endA _ _ _ _ _ _ _); simp -implicitDefEqProofs only [endA]) | (with_reducible first | refine zB default (by first | omega | (simp only [LN, ht, hm]; omega)) (by first | omega | (simp only [LN, ht, hm]; omega)) ?_ | refine zC default (by first | omega | (simp only [LN, ht, hm]; omega)) ?_ | refine And.intro (by first | decide | omega | assumption | (simp only [LN, ht, hm]; omega)) ?_) | ((with_reducible show pickE _ _ _); first | refine zA _ ⟨by omega, by rfl⟩ ?_ | refine zA _ (by rfl) ?_) | fail); try simp -dsimp -implicitDefEqProofs (maxSteps := 1000000) (disch := first | omega | (simp only [LN, ht, hm]; omega)) only [go_sem, ht, hm])
    | fail)
   all_goals first | omega | (simp; done)
end Go.Proofs.YtegekpjkbedngaaGreat
namespace Go.Proofs.YtegekpjkbedngaaGreat
set_option maxHeartbeats 4000000
set_option maxRecDepth 100000
open Go Go.Ab
attribute [local irreducible] callK callF loopQ vstep vskip pickE hideP
def coO (W : Nat → Int) (sl : List Nat) (c : Nat) : Ob := .var [.p (.v (.int .u64 (W 0))), .p (.v (.int .u64 (W 1))), .p (.v (.int .u64 (W 2))), .p (.v (.int .u64 (W 3))), .p (.v (.int .u64 (W 4))), .p (.v (.int .u64 (W 5))), .p (.v (.int .u64 (W 6))), .p (.v (.int .u64 (W 7))), .p (.v (.int .u64 (W 8))), .p (.v (.int .u64 (W 9))), .p (.v (.int .u64 (W 10))), .p (.v (.int .u64 (W 11))), .p (.v (.int .u64 (W 12))), .p (.v (.int .u64 (W 13))), .p (.v (.int .u64 (W 14))), .p (.v (.int .u64 (W 15))), .p (.v (.int .u64 (W 16))), .p (.v (.int .u64 (W 17))), .p (.v (.int .u64 (W 18))), .p (.v (.int .u64 (W 19))), .p (.v (.int .u64 (W 20))), .p (.v (.int .u64 (W 21))), .p (.v (.int .u64 (W 22))), .p (.v (.int .u64 (W 23))), .p (.v (.int .u64 (W 24))), .p (.v (.int .u64 (W 25))), .p (.v (.int .u64 (W 26))), .p (.v (.int .u64 (W 27))), .p (.view 1 (sl.map eNd)), .p (.v (.int .u64 c))]
attribute [local go_sem] coO eNd
theorem kKey (W : Nat → Int) (sl : List Nat) (c : Nat) (hs : Sl sl) (i : Nat) (hi : i < sl.length) : ACalls Tryz.prog 55 [.loc 0 0, .p (.v (.int .i64 i))] [coO W sl c] (.p (.v (.int .u64 (W (4 + sl.getD i default))))) [coO W sl c] := by
 refine yA (E := E) (fn := Tryz.f55) 18 [.tmp 4] rfl rfl rfl rfl (by decide) rfl rfl ?_
 have hx := sl_digit hs hi
 have h2 := hs.2.2
 generalize hxx : sl.getD i default = x at *
 rcases lt12 hx with rfl | rfl | rfl | rfl | rfl | rfl | rfl | rfl | rfl | rfl | rfl | rfl
 all_goals
  repeat' (first
   | (with_reducible first | apply zY | apply zT | apply zM | apply zN | apply zO | refine chk_ok (by kernel_rfl) ?_)
   | ((with_reducible first | apply zP | apply zQ | apply zR | apply zL) <;> intro h <;> try (exfalso; first | omega | exact h rfl | (revert h; decide) | (cases h; done)))
   | ((with_reducible show False); omega)
   | ((first | (with_reducible first | apply zW | apply zV | apply zU | apply zS | apply zX | show VX _ _ _ _ _ _ _ | show vstep _ _ _ _ _ | show vskip _ _ _ | show withV _ _) | ((with_reducible show endA _ _ _ _ _ _ _); simp -implicitDefEqProofs only [endA]) | (with_reducible first | refine zB default (by first | omega | (simp only [LN, hxx]; omega)) (by first | omega | (simp only [LN, hxx]; omega)) ?_ | refine zC default (by first | omega | (simp only [LN, hxx]; omega)) ?_ | refine And.intro (by first | decide | omega | assumption | (simp only [LN, hxx]; omega)) ?_) | ((with_reducible show pickE _ _ _); first | refine zA _ ⟨by omega, by rfl⟩ ?_ | refine zA _ (by rfl) ?_) | fail); try simp -dsimp -implicitDefEqProofs (maxSteps := 1000000) (disch := first | omega | (simp only [LN, hxx]; omega)) only [go_sem, hxx])
   | fail)
  all_goals first | omega
theorem kVal (W : Nat → Int) (sl : List Nat) (c : Nat) (hs : Sl sl) (i : Nat) (hi : i < sl.length) : ACalls Tryz.prog 57 [.loc 0 0, .p (.v (.int .i64 i))] [coO W sl c] (.p (.v (.int .u64 (W (16 + sl.getD i default))))) [coO W sl c] := by
 refine yA (E := E) (fn := Tryz.f57) 18 [.tmp 4] rfl rfl rfl rfl (by decide) rfl rfl ?_
 have hx := sl_digit hs hi
 have h2 := hs.2.2
 generalize hxx : sl.getD i default = x at *
 rcases lt12 hx with rfl | rfl | rfl | rfl | rfl | rfl | rfl | rfl | rfl | rfl | rfl | rfl
 all_goals
  repeat' (first
   | (with_reducible first | apply zY | apply zT | apply zM | apply zN | apply zO | refine chk_ok (by kernel_rfl) ?_)
   | ((with_reducible first | apply zP | apply zQ | apply zR | apply zL) <;> intro h <;> try (exfalso; first | omega | exact h rfl | (revert h; decide) | (cases h; done)))
   | ((with_reducible show False); omega)
   | ((first | (with_reducible first | apply zW | apply zV | apply zU | apply zS | apply zX | show VX _ _ _ _ _ _ _ | show vstep _ _ _ _ _ | show vskip _ _ _ | show withV _ _) | ((with_reducible show endA _ _ _ _ _ _ _); simp -implicitDefEqProofs only [endA]) | (with_reducible first | refine zB default (by first | omega | (simp only [LN, hxx]; omega)) (by first | omega | (simp only [LN, hxx]; omega)) ?_ | refine zC default (by first | omega | (simp only [LN, hxx]; omega)) ?_ | refine And.intro (by first | decide | omega | assumption | (simp only [LN, hxx]; omega)) ?_) | ((with_reducible show pickE _ _ _); first | refine zA _ ⟨by omega, by rfl⟩ ?_ | refine zA _ (by rfl) ?_) | fail); try simp -dsimp -implicitDefEqProofs (maxSteps := 1000000) (disch := first | omega | (simp only [LN, hxx]; omega)) only [go_sem, hxx])
   | fail)
  all_goals first | omega
def FndI (W : Nat → Int) (sl : List Nat) (key : Int) (i : Nat) : Prop := i ≤ sl.length ∧ (∀ j, j < i → W (4 + sl.getD j default) < key) ∧ (i < sl.length → key ≤ W (4 + sl.getD i default))
theorem kFind (W : Nat → Int) (sl : List Nat) (c : Nat) (hs : Sl sl) (key : Int) (i : Nat) (hi : FndI W sl key i) : ACalls Tryz.prog 33 [.loc 0 0, .p (.v (.int .u64 key))] [coO W sl c] (.p (.tup [.v (.int .i64 i), .v (.bool (decide (i < sl.length) && decide (W (4 + sl.getD i default) = key)))])) [coO W sl c] := by
 refine yA (E := E) (fn := Tryz.f33) 38 [.tmp 4, .tmp 5] rfl rfl rfl rfl (by decide) rfl rfl ?_
 have h2 := hs.2.2
 obtain ⟨hi1, hi2, hi3⟩ := hi
 repeat' (first
  | (with_reducible first | apply zY | apply zT | apply zM | apply zN | apply zO | refine chk_ok (by kernel_rfl) ?_)
  | ((with_reducible first | apply zP | apply zQ | apply zR | apply zL) <;> intro h <;> try (exfalso; first | omega | exact h rfl | (revert h; decide) | (cases h; done)))
  | ((with_reducible show False); omega)
  | ((first | (with_reducible first | apply zW | apply zV | apply zU | apply zS | apply zX | show VX _ _ _ _ _ _ _ | show vstep _ _ _ _ _ | show vskip _ _ _ | show withV _ _) | ((with_reducible show endA _ _ _ _ _ _ _); simp -implicitDefEqProofs only [endA]) | (with_reducible first | refine zB default (by first | omega | (simp only [LN]; omega)) (by first | omega | (simp only [LN]; omega)) ?_ | refine zC default (by first | omega | (simp only [LN]; omega)) ?_ | refine And.intro (by first | decide | omega | assumption | (simp only [LN]; omega)) ?_) | ((with_reducible show pickE _ _ _); first | refine zA _ ⟨by omega, by rfl⟩ ?_ | refine zA _ (by rfl) ?_) | fail); try simp -dsimp -implicitDefEqProofs (maxSteps := 1000000) (disch := first | omega | (simp only [LN]; omega)) only [go_sem])
  | fail)
 refine r_loopA (α := Nat) [0, 1] (fun k b => [(6, aI k)]) (fun k b => []) (fun k => []) (fun k => k ≤ i) (fun k => i - k) (0) ?h0_1 ?hs0_1 ?I_1 ?hI_1 ?round_1
 case hI_1 => intro x; (simp -dsimp -implicitDefEqProofs (maxSteps := 1000000) (disch := first | omega | (simp only [LN]; omega)) only [go_sem]) <;> exact rfl
 case hs0_1 => refine wk_auto ?_; (simp -dsimp -implicitDefEqProofs (maxSteps := 1000000) (disch := first | omega | (simp only [LN]; omega)) only [go_sem]) <;> (try omega)
 case h0_1 => exact Nat.zero_le _
 case round_1 =>
  intro k hk
  have w3 : IntKind.i64.wrap ((k : Int) + 1) = ((k + 1 : Nat) : Int) := by rw [IntKind.wrap_i64]; push_cast; omega
  by_cases hk2 : k < i
  ·have kk := kKey W sl c hs k (by omega)
   have q := hi2 k hk2
   repeat' (first
    | (with_reducible first | apply zY | apply zT | apply zM | apply zN | apply zO | refine chk_ok (by kernel_rfl) ?_)
    | ((with_reducible first | apply zP | apply zQ | apply zR | apply zL) <;> intro h <;> try (exfalso; first | omega | exact h rfl | (revert h; decide) | (cases h; done)))
    | ((with_reducible show False); omega)
    | ((first | (with_reducible first | apply zW | apply zV | apply zU | apply zS | apply zX | show VX _ _ _ _ _ _ _ | show vstep _ _ _ _ _ | show vskip _ _ _ | show withV _ _) | ((with_reducible show endA _ _ _ _ _ _ _); simp -implicitDefEqProofs only [endA]) | (with_reducible first | refine zB default (by first | omega | (simp only [LN]; omega)) (by first | omega | (simp only [LN]; omega)) ?_ | refine zC default (by first | omega | (simp only [LN]; omega)) ?_ | refine And.intro (by first | decide | omega | assumption | (simp only [LN]; omega)) ?_) | (with_reducible first | apply zG | apply zH | apply zI | apply hidePI_own) | ((with_reducible apply zJ); (first | exact kk | fail)) | ((with_reducible show pickE _ _ _); first | refine zA _ ⟨by omega, by rfl⟩ ?_ | refine zA _ (by rfl) ?_) | fail); try simp -dsimp -implicitDefEqProofs (maxSteps := 1000000) (disch := first | omega | (simp only [LN]; omega)) only [go_sem])
    | fail)
   all_goals first | omega | ((refine zZ (k + 1) ?_ ?_ ?_; (omega); (show _ < _; omega); (simp -dsimp -implicitDefEqProofs (maxSteps := 1000000) (disch := first | omega | (simp only [LN, w3]; omega)) only [go_sem, w3]; try trivial)))
  ·obtain rfl : k = i := by omega
   by_cases hl : k < sl.length
   ·have kk := kKey W sl c hs k hl
    have q := hi3 hl
    repeat' (first
     | (with_reducible first | apply zY | apply zT | apply zM | apply zN | apply zO | refine chk_ok (by kernel_rfl) ?_)
     | ((with_reducible first | apply zP | apply zQ | apply zR | apply zL) <;> intro h <;> try (exfalso; first | omega | exact h rfl | (revert h; decide) | (cases h; done)))
     | ((with_reducible show False); omega)
     | ((first | (with_reducible first | apply zW | apply zV | apply zU | apply zS | apply zX | show VX _ _ _ _ _ _ _ | show vstep _ _ _ _ _ | show vskip _ _ _ | show withV _ _) | ((with_reducible show endA _ _ _ _ _ _ _); simp -implicitDefEqProofs only [endA]) | (with_reducible first | refine zB default (by first | omega | (simp only [LN]; omega)) (by first | omega | (simp only [LN]; omega)) ?_ | refine zC default (by first | omega | (simp only [LN]; omega)) ?_ | refine And.intro (by first | decide | omega | assumption | (simp only [LN]; omega)) ?_) | (with_reducible first | apply zG | apply zH | apply zI | apply hidePI_own) | ((with_reducible apply zJ); (first | exact kk | fail)) | ((with_reducible show pickE _ _ _); first | refine zA _ ⟨by omega, by rfl⟩ ?_ | refine zA _ (by rfl) ?_) | fail); try simp -dsimp -implicitDefEqProofs (maxSteps := 1000000) (disch := first | omega | (simp only [LN]; omega)) only [go_sem])
     | fail)
    all_goals first | omega | (rw [decide_eq_true hl]; rfl)
   ·repeat' (first
     | (with_reducible first | apply zY | apply zT | apply zM | apply zN | apply zO | refine chk_ok (by kernel_rfl) ?_)
     | ((with_reducible first | apply zP | apply zQ | apply zR | apply zL) <;> intro h <;> try (exfalso; first | omega | exact h rfl | (revert h; decide) | (cases h; done)))
     | ((with_reducible show False); omega)
     | ((first | (with_reducible first | apply zW | apply zV | apply zU | apply zS | apply zX | show VX _ _ _ _ _ _ _ | show vstep _ _ _ _ _ | show vskip _ _ _ | show withV _ _) | ((with_reducible show endA _ _ _ _ _ _ _); simp -implicitDefEqProofs only [endA]) | (with_reducible first | refine zB default (by first | omega | (simp only [LN]; omega)) (by first | omega | (simp only [LN]; omega)) ?_ | refine zC default (by first | omega | (simp only [LN]; omega)) ?_ | refine And.intro (by first | decide | omega | assumption | (simp only [LN]; omega)) ?_) | ((with_reducible show pickE _ _ _); first | refine zA _ ⟨by omega, by rfl⟩ ?_ | refine zA _ (by rfl) ?_) | fail); try simp -dsimp -implicitDefEqProofs (maxSteps := 1000000) (disch := first | omega | (simp only [LN]; omega)) only [go_sem])
     | fail)
    all_goals first | omega | (simp; omega)
theorem kUnused (l : List Nat) (hs : Sl l) (fr : Nat) (hf0 : fr ≤ 12) (hf1 : sB l l.length fr = false) (hf2 : ∀ j, j < fr → sB l l.length j = true) : PCalls Tryz.prog 36 [.view 1 (l.map eNd)] (.v (.int .i64 fr)) := by
 refine yD ⟨_, rfl, rfl, by decide⟩ fun hf => ?_
 simp only [go_sem, big] at hf
 refine yB (E := E) (fn := Tryz.f36) 22 [.tmp 2] rfl rfl rfl rfl (by decide) rfl ?_
 have h2 := hs.2.2
 repeat' (first
  | (with_reducible first | apply zY | apply zT | apply zM | apply zN | apply zO | refine chk_ok (by kernel_rfl) ?_)
  | ((with_reducible first | apply zP | apply zQ | apply zR | apply zL) <;> intro h <;> try (exfalso; first | omega | exact h rfl | (revert h; decide) | (cases h; done)))
  | ((with_reducible show False); omega)
  | ((first | (with_reducible first | apply zW | apply zV | apply zU | apply zS | apply zX | show VX _ _ _ _ _ _ _ | show vstep _ _ _ _ _ | show vskip _ _ _ | show withV _ _) | ((with_reducible show endA _ _ _ _ _ _ _); simp -implicitDefEqProofs only [endA]) | (with_reducible first | refine zB default (by first | omega | (simp only [LN]; omega)) (by first | omega | (simp only [LN]; omega)) ?_ | refine zC default (by first | omega | (simp only [LN]; omega)) ?_ | refine And.intro (by first | decide | omega | assumption | (simp only [LN]; omega)) ?_) | ((with_reducible show pickE _ _ _); first | refine zA _ ⟨by omega, by rfl⟩ ?_ | refine zA _ (by rfl) ?_) | fail); try simp -dsimp -implicitDefEqProofs (maxSteps := 1000000) (disch := first | omega | (simp only [LN]; omega)) only [go_sem])
  | fail)
 refine r_loopA (α := Nat) [3, 7, 8] (fun i b => [(9, aI i)]) (fun i b => [(3, .var [.p (.v (.bool (sB l i 0))), .p (.v (.bool (sB l i 1))), .p (.v (.bool (sB l i 2))), .p (.v (.bool (sB l i 3))), .p (.v (.bool (sB l i 4))), .p (.v (.bool (sB l i 5))), .p (.v (.bool (sB l i 6))), .p (.v (.bool (sB l i 7))), .p (.v (.bool (sB l i 8))), .p (.v (.bool (sB l i 9))), .p (.v (.bool (sB l i 10))), .p (.v (.bool (sB l i 11))), .p (.v (.bool (sB l i 12)))])]) (fun i => []) (fun i => i ≤ l.length) (fun i => l.length - i) (0) ?h0_2 ?hs0_2 ?I_2 ?hI_2 ?round_2
 case hI_2 => intro x; (simp -dsimp -implicitDefEqProofs (maxSteps := 1000000) (disch := first | omega | (simp only [LN]; omega)) only [go_sem]) <;> exact rfl
 case hs0_2 => refine wk_auto ?_; (simp -dsimp -implicitDefEqProofs (maxSteps := 1000000) (disch := first | omega | (simp only [LN, sB_0]; omega)) only [go_sem, sB_0]) <;> (try omega)
 case h0_2 => exact Nat.zero_le _
 case round_2 =>
  intro i hi
  have w3 : IntKind.i64.wrap ((i : Int) + 1) = ((i + 1 : Nat) : Int) := by rw [IntKind.wrap_i64]; push_cast; omega
  by_cases hi3 : i < l.length
  ·have hx := sl_digit hs hi3
   have ht := sB_t hi3
   have ho := fun j => sB_o (j := j) hi3
   generalize hxx : l.getD i default = x at *
   rcases lt12 hx with rfl | rfl | rfl | rfl | rfl | rfl | rfl | rfl | rfl | rfl | rfl | rfl
   all_goals
    repeat' (first
     | (with_reducible first | apply zY | apply zT | apply zM | apply zN | apply zO | refine chk_ok (by kernel_rfl) ?_)
     | ((with_reducible first | apply zP | apply zQ | apply zR | apply zL) <;> intro h <;> try (exfalso; first | omega | exact h rfl | (revert h; decide) | (cases h; done)))
     | ((with_reducible show False); omega)
     | ((first | (with_reducible first | apply zW | apply zV | apply zU | apply zS | apply zX | show VX _ _ _ _ _ _ _ | show vstep _ _ _ _ _ | show vskip _ _ _ | show withV _ _) | ((with_reducible show endA _ _ _ _ _ _ _); simp -implicitDefEqProofs only [endA]) | (with_reducible first | refine zB default (by first | omega | (simp only [LN, hxx]; omega)) (by first | omega | (simp only [LN, hxx]; omega)) ?_ | refine zC default (by first | omega | (simp only [LN, hxx]; omega)) ?_ | refine And.intro (by first | decide | omega | assumption | (simp only [LN, hxx]; omega)) ?_) | ((with_reducible show pickE _ _ _); first | refine zA _ ⟨by omega, by rfl⟩ ?_ | refine zA _ (by rfl) ?_) | fail); try simp -dsimp -implicitDefEqProofs (maxSteps := 1000000) (disch := first | omega | (simp only [LN, hxx]; omega)) only [go_sem, hxx])
     | fail)
    all_goals first | omega | ((refine zZ (i + 1) ?_ ?_ ?_; (omega); (show _ < _; omega); (simp -dsimp -implicitDefEqProofs (maxSteps := 1000000) (disch := first | omega | (simp only [LN, w3, ht, ho]; omega)) only [go_sem, w3, ht, ho]; try trivial)))
  ·obtain rfl : i = l.length := by omega
   repeat' (first
    | (with_reducible first | apply zY | apply zT | apply zM | apply zN | apply zO | refine chk_ok (by kernel_rfl) ?_)
    | ((with_reducible first | apply zP | apply zQ | apply zR | apply zL) <;> intro h <;> try (exfalso; first | omega | exact h rfl | (revert h; decide) | (cases h; done)))
    | ((with_reducible show False); omega)
    | ((first | (with_reducible first | apply zW | apply zV | apply zU | apply zS | apply zX | show VX _ _ _ _ _ _ _ | show vstep _ _ _ _ _ | show vskip _ _ _ | show withV _ _) | ((with_reducible show endA _ _ _ _ _ _ _); simp -implicitDefEqProofs only [endA]) | (with_reducible first | refine zB default (by first | omega | (simp only [LN]; omega)) (by first | omega | (simp only [LN]; omega)) ?_ | refine zC default (by first | omega | (simp only [LN]; omega)) ?_ | refine And.intro (by first | decide | omega | assumption | (simp only [LN]; omega)) ?_) | ((with_reducible show pickE _ _ _); first | refine zA _ ⟨by omega, by rfl⟩ ?_ | refine zA _ (by rfl) ?_) | fail); try simp -dsimp -implicitDefEqProofs (maxSteps := 1000000) (disch := first | omega | (simp only [LN]; omega)) only [go_sem])
    | fail)
   all_goals try omega
   refine r_loopA (α := Nat) [3] (fun k b => [(6, aI k)]) (fun k b => []) (fun k => []) (fun k => k ≤ fr) (fun k => fr - k) (0) ?h0_3 ?hs0_3 ?I_3 ?hI_3 ?round_3
   case hI_3 => intro x; (simp -dsimp -implicitDefEqProofs (maxSteps := 1000000) (disch := first | omega | (simp only [LN]; omega)) only [go_sem]) <;> exact rfl
   case hs0_3 => refine wk_auto ?_; (simp -dsimp -implicitDefEqProofs (maxSteps := 1000000) (disch := first | omega | (simp only [LN]; omega)) only [go_sem]) <;> (try omega)
   case h0_3 => exact Nat.zero_le _
   case round_3 =>
    intro k hk
    have w4 : IntKind.i64.wrap ((k : Int) + 1) = ((k + 1 : Nat) : Int) := by rw [IntKind.wrap_i64]; push_cast; omega
    by_cases hk2 : k < fr
    ·have hq := hf2 k hk2
     have hx : k < 12 := by omega
     obtain ⟨k2, he⟩ : ∃ k2, k2 = k + 1 := ⟨_, rfl⟩
     rcases lt12 hx with rfl | rfl | rfl | rfl | rfl | rfl | rfl | rfl | rfl | rfl | rfl | rfl
     all_goals
      repeat' (first
       | (with_reducible first | apply zY | apply zT | apply zM | apply zN | apply zO | refine chk_ok (by kernel_rfl) ?_)
       | ((with_reducible first | apply zP | apply zQ | apply zR | apply zL) <;> intro h <;> try (exfalso; first | omega | exact h rfl | (revert h; decide) | (cases h; done)))
       | ((with_reducible show False); omega)
       | ((first | (with_reducible first | apply zW | apply zV | apply zU | apply zS | apply zX | show VX _ _ _ _ _ _ _ | show vstep _ _ _ _ _ | show vskip _ _ _ | show withV _ _) | ((with_reducible show endA _ _ _ _ _ _ _); simp -implicitDefEqProofs only [endA]) | (with_reducible first | refine zB default (by first | omega | (simp only [LN, hq]; omega)) (by first | omega | (simp only [LN, hq]; omega)) ?_ | refine zC default (by first | omega | (simp only [LN, hq]; omega)) ?_ | refine And.intro (by first | decide | omega | assumption | (simp only [LN, hq]; omega)) ?_) | ((with_reducible show pickE _ _ _); first | refine zA _ ⟨by omega, by rfl⟩ ?_ | refine zA _ (by rfl) ?_) | fail); try simp -dsimp -implicitDefEqProofs (maxSteps := 1000000) (disch := first | omega | (simp only [LN, hq]; omega)) only [go_sem, hq])
       | fail)
      all_goals first | omega | ((refine zZ (k2) ?_ ?_ ?_; (omega); (show _ < _; omega); (simp -dsimp -implicitDefEqProofs (maxSteps := 1000000) (disch := first | omega | (simp only [LN, w4, hq, he]; omega)) only [go_sem, w4, hq, he]; try trivial)))
    ·obtain rfl : k = fr := by omega
     rcases (show k < 12 ∨ k = 12 by omega) with hx | rfl
     ·rcases lt12 hx with rfl | rfl | rfl | rfl | rfl | rfl | rfl | rfl | rfl | rfl | rfl | rfl
      all_goals
       repeat' (first
        | (with_reducible first | apply zY | apply zT | apply zM | apply zN | apply zO | refine chk_ok (by kernel_rfl) ?_)
        | ((with_reducible first | apply zP | apply zQ | apply zR | apply zL) <;> intro h <;> try (exfalso; first | omega | exact h rfl | (revert h; decide) | (cases h; done)))
        | ((with_reducible show False); omega)
        | ((first | (with_reducible first | apply zW | apply zV | apply zU | apply zS | apply zX | show VX _ _ _ _ _ _ _ | show vstep _ _ _ _ _ | show vskip _ _ _ | show withV _ _) | ((with_reducible show endA _ _ _ _ _ _ _); simp -implicitDefEqProofs only [endA]) | (with_reducible first | refine zB default (by first | omega | (simp only [LN, hf1]; omega)) (by first | omega | (simp only [LN, hf1]; omega)) ?_ | refine zC default (by first | omega | (simp only [LN, hf1]; omega)) ?_ | refine And.intro (by first | decide | omega | assumption | (simp only [LN, hf1]; omega)) ?_) | ((with_reducible show pickE _ _ _); first | refine zA _ ⟨by omega, by rfl⟩ ?_ | refine zA _ (by rfl) ?_) | fail); try simp -dsimp -implicitDefEqProofs (maxSteps := 1000000) (disch := first | omega | (simp only [LN, hf1]; omega)) only [go_sem, hf1])
        | fail)
       all_goals first | omega
     ·repeat' (first
       | (with_reducible first | apply zY | apply zT | apply zM | apply zN | apply zO | refine chk_ok (by kernel_rfl) ?_)
       | ((with_reducible first | apply zP | apply zQ | apply zR | apply zL) <;> intro h <;> try (exfalso; first | omega | exact h rfl | (revert h; decide) | (cases h; done)))
       | ((with_reducible show False); omega)
       | ((first | (with_reducible first | apply zW | apply zV | apply zU | apply zS | apply zX | show VX _ _ _ _ _ _ _ | show vstep _ _ _ _ _ | show vskip _ _ _ | show withV _ _) | ((with_reducible show endA _ _ _ _ _ _ _); simp -implicitDefEqProofs only [endA]) | (with_reducible first | refine zB default (by first | omega | (simp only [LN, hf1]; omega)) (by first | omega | (simp only [LN, hf1]; omega)) ?_ | refine zC default (by first | omega | (simp only [LN, hf1]; omega)) ?_ | refine And.intro (by first | decide | omega | assumption | (simp only [LN, hf1]; omega)) ?_) | ((with_reducible show pickE _ _ _); first | refine zA _ ⟨by omega, by rfl⟩ ?_ | refine zA _ (by rfl) ?_) | fail); try simp -dsimp -implicitDefEqProofs (maxSteps := 1000000) (disch := first | omega | (simp only [LN, hf1]; omega)) only [go_sem, hf1])
       | fail)
      all_goals first | omega
theorem kIns (l : List Nat) (hl : l.length ≤ 12) (i : Nat) (hi : i ≤ l.length) (s : Nat) : PCalls Tryz.prog 38 [.view 1 (l.map eNd), .v (.int .i64 i), .v (.int .i64 s)] (.view 1 ((l.take i ++ s :: l.drop i).map eNd)) := by
 refine yD ⟨_, rfl, rfl, by decide⟩ fun hf => ?_
 simp only [go_sem, big] at hf
 refine yB (E := E) (fn := Tryz.f38) 21 [.tmp 6] rfl rfl rfl rfl (by decide) rfl ?_
 repeat' (first
  | (with_reducible first | apply zY | apply zT | apply zM | apply zN | apply zO | refine chk_ok (by kernel_rfl) ?_)
  | ((with_reducible first | apply zP | apply zQ | apply zR | apply zL) <;> intro h <;> try (exfalso; first | omega | exact h rfl | (revert h; decide) | (cases h; done)))
  | ((with_reducible show False); omega)
  | ((first | (with_reducible first | apply zW | apply zV | apply zU | apply zS | apply zX | show VX _ _ _ _ _ _ _ | show vstep _ _ _ _ _ | show vskip _ _ _ | show withV _ _) | ((with_reducible show endA _ _ _ _ _ _ _); simp -implicitDefEqProofs only [endA]) | (with_reducible first | refine zB default (by first | omega | (simp only [LN]; omega)) (by first | omega | (simp only [LN]; omega)) ?_ | refine zC default (by first | omega | (simp only [LN]; omega)) ?_ | refine And.intro (by first | decide | omega | assumption | (simp only [LN]; omega)) ?_) | ((with_reducible show pickE _ _ _); first | refine zA _ ⟨by omega, by rfl⟩ ?_ | refine zA _ (by rfl) ?_) | fail); try simp -dsimp -implicitDefEqProofs (maxSteps := 1000000) (disch := first | omega | (simp only [LN]; omega)) only [go_sem])
  | fail)
 all_goals first | omega | (simp; done)
def eIn (x : Int × Int × Int) : PV := .agg [.v (.int .u8 x.1), .v (.int .u64 x.2.1), .v (.int .u64 x.2.2)]
attribute [local go_sem] eIn
def cmt (o v : Int) : List (Int × Int × Int) := [(1, o, v), (2, o, 0), (3, 0, 0)]
theorem kCommit0 (o v : Int) : PCalls Tryz.prog 34 [.v (.slice none 0 0), .v (.int .u64 o), .v (.int .u64 v)] (.view 3 ((cmt o v).map eIn)) := by
 refine yB (E := E) (fn := Tryz.f34) 16 [.tmp 6] rfl rfl rfl rfl (by decide) rfl ?_
 repeat' (first
  | (with_reducible first | apply zY | apply zT | apply zM | apply zN | apply zO | refine chk_ok (by kernel_rfl) ?_)
  | ((with_reducible first | apply zP | apply zQ | apply zR | apply zL) <;> intro h <;> try (exfalso; first | omega | exact h rfl | (revert h; decide) | (cases h; done)))
  | ((with_reducible show False); omega)
  | ((first | (with_reducible first | apply zW | apply zV | apply zU | apply zS | apply zX | show VX _ _ _ _ _ _ _ | show vstep _ _ _ _ _ | show vskip _ _ _ | show withV _ _) | ((with_reducible show endA _ _ _ _ _ _ _); simp -implicitDefEqProofs only [endA]) | (with_reducible first | refine zB default (by first | omega | (simp only [LN]; omega)) (by first | omega | (simp only [LN]; omega)) ?_ | refine zC default (by first | omega | (simp only [LN]; omega)) ?_ | refine And.intro (by first | decide | omega | assumption | (simp only [LN]; omega)) ?_) | ((with_reducible show pickE _ _ _); first | refine zA _ ⟨by omega, by rfl⟩ ?_ | refine zA _ (by rfl) ?_) | fail); try simp -dsimp -implicitDefEqProofs (maxSteps := 1000000) (disch := first | omega | (simp only [LN]; omega)) only [go_sem])
  | fail)
 all_goals first | omega | (simp [cmt, eIn]; done)
theorem kCommit (l : List (Int × Int × Int)) (hl : l.length ≤ 1000) (o v : Int) : ACalls Tryz.prog 34 [.sl 0 3 0 l.length, .p (.v (.int .u64 o)), .p (.v (.int .u64 v))] [.arr 3 (l.map eIn)] (.p (.view 3 ((l ++ cmt o v).map eIn))) [.dead] := by
 refine yA (E := E) (fn := Tryz.f34) 16 [.tmp 6] rfl rfl rfl rfl (by decide) rfl rfl ?_
 repeat' (first
  | (with_reducible first | apply zY | apply zT | apply zM | apply zN | apply zO | refine chk_ok (by kernel_rfl) ?_)
  | ((with_reducible first | apply zP | apply zQ | apply zR | apply zL) <;> intro h <;> try (exfalso; first | omega | exact h rfl | (revert h; decide) | (cases h; done)))
  | ((with_reducible show False); omega)
  | ((first | (with_reducible first | apply zW | apply zV | apply zU | apply zS | apply zX | show VX _ _ _ _ _ _ _ | show vstep _ _ _ _ _ | show vskip _ _ _ | show withV _ _) | ((with_reducible show endA _ _ _ _ _ _ _); simp -implicitDefEqProofs only [endA]) | (with_reducible first | refine zB default (by first | omega | (simp only [LN]; omega)) (by first | omega | (simp only [LN]; omega)) ?_ | refine zC default (by first | omega | (simp only [LN]; omega)) ?_ | refine And.intro (by first | decide | omega | assumption | (simp only [LN]; omega)) ?_) | ((with_reducible show pickE _ _ _); first | refine zA _ ⟨by omega, by rfl⟩ ?_ | refine zA _ (by rfl) ?_) | fail); try simp -dsimp -implicitDefEqProofs (maxSteps := 1000000) (disch := first | omega | (simp only [LN]; omega)) only [go_sem])
  | fail)
 all_goals first | omega | (simp [cmt, eIn]; done)
end Go.Proofs.YtegekpjkbedngaaGreat
