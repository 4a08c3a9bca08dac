/- Contracts of functions of this program, and the plain facts that they rest on. No conditions. -/
import Derived.Test.YtcnbngflehiphaaDoorD13
set_option linter.unusedSimpArgs false
set_option linter.unusedVariables false
namespace Go.Proofs.YtcnbngflehiphaaDoor
open Go Go.Ab
attribute [local irreducible] callK callF loopQ vstep vskip pickE hideP
open Go.RowKit
attribute [local go_sem] eI
set_option maxRecDepth 100000
theorem vals2 {Z : Nat → Prop} {w : World} {vals : List Value} {a b : Value} (hv : Reps Z w [.v a, .v b] vals) : vals = [a, b] := by
  simp only [Reps, Rep] at hv
  obtain ⟨_, _, rfl, ⟨rfl, _⟩, _, _, rfl, ⟨rfl, _⟩, rfl⟩ := hv
  rfl
theorem rep2 {Z : Nat → Prop} {w : World} {a b : Value} (ha : oneB a = true) (hb : oneB b = true) : Rep Z w (.tup [.v a, .v b]) (.tuple #[a, b]) := by
  simp only [Rep, Reps]; exact ⟨_, ⟨_, _, rfl, ⟨rfl, ha⟩, _, _, rfl, ⟨rfl, hb⟩, rfl⟩, rfl⟩
theorem c63h (a b : List UInt8) (x : UInt8) (h : x ∉ a) (hl : a.length + b.length ≤ 10000000) : PCalls Tryd.prog 63 [.v (.string (bs (a ++ x :: b))), .v (.string ⟨#[x]⟩)] (.tup [.v (.string (bs a)), .v (.string (bs b)), .v (.bool true)]) :=
  cut_call _ x (by simp; omega) (cut_hit x a b h)
theorem c63m (s : List UInt8) (x : UInt8) (h : x ∉ s) (hl : s.length ≤ 10000000) : PCalls Tryd.prog 63 [.v (.string (bs s)), .v (.string ⟨#[x]⟩)] (.tup [.v (.string (bs s)), .v (.string (bs [])), .v (.bool false)]) :=
  cut_call _ x (by omega) (cut_miss x s h)
theorem c64 (s p : List UInt8) : PCalls Tryd.prog 64 [.v (.string (bs s)), .v (.string (bs p))] (.tup [.v (.string (bs (Lib.trimPrefix s p))), .v (.bool (Lib.hasPrefix s p))]) := by
  refine pcalls_val ⟨_, rfl, rfl, by decide⟩ (u := .tuple #[.string (bs (Lib.trimPrefix s p)), .bool (Lib.hasPrefix s p)]) (fun Z w => rep2 rfl rfl) fun Z w vals hz hv => ?_
  rw [vals2 hv]
  exact (Tryd.strings_CutPrefix (bs s) (bs p) w).mono fun e w' ⟨he, hw⟩ => ⟨he, by rw [hw]; exact Below.refl _ _⟩
/-! Hexadecimal digits. -/
def isHx (c : UInt8) : Bool := decide (48 ≤ c.toNat ∧ c.toNat ≤ 57) || decide (97 ≤ c.toNat ∧ c.toNat ≤ 102)
def hxd (c : UInt8) : Nat := if c.toNat ≤ 57 then c.toNat - 48 else c.toNat - 87
theorem hx_index : ∀ n, n < 256 → Lib.indexByte digL (UInt8.ofNat n) = if isHx (UInt8.ofNat n) = true then (hxd (UInt8.ofNat n) : Int) else -1 := by decide +kernel
theorem hx_index' (c : UInt8) : Lib.indexByte digL c = if isHx c = true then (hxd c : Int) else -1 := by
  have h := hx_index c.toNat (UInt8.toNat_lt c)
  rw [UInt8.ofNat_toNat] at h; exact h
theorem hxd_lt (c : UInt8) (h : isHx c = true) : hxd c < 16 := by
  unfold isHx at h; rw [Bool.or_eq_true, decide_eq_true_iff, decide_eq_true_iff] at h
  unfold hxd; split <;> omega
theorem c100 (c : UInt8) : PCalls Tryd.prog 100 [.v (.string (bs digL)), .v (.int .u8 (c.toNat : Nat))] (.v (.int .i64 (if isHx c = true then (hxd c : Int) else -1))) := by
  refine pcalls_val ⟨_, rfl, rfl, by decide⟩ (u := .int .i64 (if isHx c = true then (hxd c : Int) else -1)) (fun Z w => by simp [Rep, oneB]) fun Z w vals hz hv => ?_
  rw [vals2 hv]
  have := Tryd.strings_IndexByte (bs digL) (c.toNat : Int) w
  rw [show (bs digL).data.toList = digL from rfl, show ((c.toNat : Int)).toNat.toUInt8 = c by simp, hx_index'] at this
  exact this.mono fun e w' ⟨he, hw⟩ => ⟨he, by rw [hw]; exact Below.refl _ _⟩
theorem tm10 (u : Nat) : Int.tmod (u : Int) 10 = (u : Int) % 10 := rfl
theorem td10 (u : Nat) : Int.tdiv (u : Int) 10 = (u : Int) / 10 := rfl
theorem dU (u : Nat) : UInt8.ofNat (IntKind.u8.wrap (48 + (u : Int) % 10)).toNat = UInt8.ofNat (48 + u % 10) := by
  rw [wr8]; congr 1; omega
def NInv (n u : Nat) (acc : List UInt8) : Prop := u ≤ n ∧ acc.length ≤ 20 ∧ (u = 0 ∧ acc = Lib.decDigits n ∨ (0 < u ∨ acc = []) ∧ acc.length + Lib.nDigits u ≤ 20 ∧ Lib.decDigits n = Lib.decDigits u ++ acc)
theorem nInv_0 {n : Nat} (h : n ≤ 18446744073709551615) : NInv n n [] := ⟨Nat.le_refl _, Nat.zero_le _, .inr ⟨by simp, by simpa using Lib.nDigits_le20 n (by omega), by simp⟩⟩
theorem nInv_s {n u : Nat} {acc : List UInt8} (h : NInv n u acc) (hc : 0 < u ∨ acc = []) : NInv n (u / 10) (UInt8.ofNat (48 + u % 10) :: acc) := by
  obtain ⟨h1, h2, h3⟩ := h
  rcases h3 with ⟨h3, h4⟩ | ⟨_, h4, h5⟩
  · rcases hc with hc | hc
    · omega
    · rw [hc] at h4; exact absurd h4.symm (dec_ne n)
  · by_cases h6 : u < 10
    · rw [Lib.nDigits_small h6] at h4
      rw [dec_one u h6] at h5
      refine ⟨by omega, by simp only [List.length_cons]; omega, .inl ⟨by omega, ?_⟩⟩
      rw [h5, show u % 10 = u by omega]; rfl
    · rw [Lib.nDigits_big h6] at h4
      rw [dec_step u h6, List.append_assoc] at h5
      exact ⟨by omega, by simp only [List.length_cons]; have := Lib.nDigits_pos (u / 10); omega, .inr ⟨.inl (by omega), by simp only [List.length_cons]; omega, h5⟩⟩
theorem nInv_end {n u : Nat} {acc : List UInt8} (h : NInv n u acc) (hu : ¬ 0 < u) (ha : ¬ acc = []) : acc = Lib.decDigits n := by
  rcases h.2.2 with ⟨_, h4⟩ | ⟨h4, _⟩
  · exact h4
  · rcases h4 with h4 | h4
    · exact absurd h4 hu
    · exact absurd h4 ha
theorem nMs {u : Nat} {acc : List UInt8} {x : UInt8} (hc : 0 < u ∨ acc = []) : u / 10 + (if x :: acc = [] then 1 else 0) < u + (if acc = [] then 1 else 0) := by
  rw [if_neg (by simp)]
  split
  · omega
  · rcases hc with hc | hc
    · omega
    · rename_i h; exact absurd hc h
set_option maxRecDepth 100000 in
set_option maxHeartbeats 4000000 in
theorem c60 (n : Nat) (h1 : n ≤ 9000000) : PCalls Tryd.prog 60 [.v (.int .i64 n)] (.v (.string (bs (Lib.decDigits n)))) := by
  refine pcalls_of (E := E) (fn := Tryd.f60) 21 [.tmp 2] rfl rfl rfl rfl (by decide) rfl ?_
  repeat' (first
    | (with_reducible first | refine r_seq ?_ | refine r_block ?_ | refine fork_not ?_ | refine fork_and ?_ | refine fork_or ?_ | refine chk_ok (by kernel_rfl) ?_)
    | ((with_reducible first | refine fork_dec ?_ ?_ | refine fork_eq ?_ ?_ | refine fork_ne ?_ ?_ | refine fork_intro ?_ ?_) <;> intro h)
    | ((with_reducible show False); omega)
    | ((first | (with_reducible first | refine r_exit ?_ | refine r_skip ?_ | refine r_cond ?_ | refine r_region ?_ | show VX _ _ _ _ _ _ _ | show vstep _ _ _ _ _ | show vskip _ _ _ | show withV _ _) | ((with_reducible show endA _ _ _ _ _ _ _); simp -implicitDefEqProofs only [endA])); simp -dsimp -implicitDefEqProofs (maxSteps := 1000000) (disch := first | omega | (simp only [LN]; omega)) only [go_sem, Int.reduceToNat, Int.reducePow, Nat.reducePow, Int.reduceAdd, Int.reduceMul, Int.reduceSub, Int.reduceNeg, Nat.reduceAdd, Nat.reduceMul, Nat.reduceSub, Nat.reduceEqDiff, Nat.reduceLT, Nat.reduceLeDiff])
    | ((first | (with_reducible refine r_ret ?_) | (with_reducible refine pick_viewG default (by first | omega | (simp only [LN]; omega)) (by first | omega | (simp only [LN]; omega)) ?_) | (with_reducible refine pick_own default (by first | omega | (simp only [LN]; omega)) ?_) | (with_reducible refine And.intro (by first | decide | omega | assumption | (simp only [LN]; omega)) ?_) | ((with_reducible show pickE _ _ _); first | refine pickE_intro _ ⟨by omega, by rfl⟩ ?_ | refine pickE_intro _ (by rfl) ?_) | fail); try simp -dsimp -implicitDefEqProofs (maxSteps := 1000000) (disch := first | omega | (simp only [LN]; omega)) only [go_sem, Int.reduceToNat, Int.reducePow, Nat.reducePow, Int.reduceAdd, Int.reduceMul, Int.reduceSub, Int.reduceNeg, Nat.reduceAdd, Nat.reduceMul, Nat.reduceSub, Nat.reduceEqDiff, Nat.reduceLT, Nat.reduceLeDiff])
    | fail)
  refine r_loopA (α := Nat × List UInt8) [] (fun q b => [(0, .p (.v (.int .i64 q.1))), (3, .p (.v (.string (bs q.2))))]) (fun q b => []) (fun q => []) (fun q => NInv n q.1 q.2) (fun q => q.1 + (if q.2 = [] then 1 else 0)) ((n, [])) ?h0_1 ?hs0_1 ?I_1 ?hI_1 ?round_1
  case hI_1 => intro x; (simp -dsimp -implicitDefEqProofs (maxSteps := 1000000) (disch := first | omega | (simp only [LN]; omega)) only [go_sem, Int.reduceToNat, Int.reducePow, Nat.reducePow, Int.reduceAdd, Int.reduceMul, Int.reduceSub, Int.reduceNeg, Nat.reduceAdd, Nat.reduceMul, Nat.reduceSub, Nat.reduceEqDiff, Nat.reduceLT, Nat.reduceLeDiff]) <;> exact rfl
  case hs0_1 => refine wk_auto ?_; (simp -dsimp -implicitDefEqProofs (maxSteps := 1000000) (disch := first | omega | (simp only [LN]; omega)) only [go_sem, Int.reduceToNat, Int.reducePow, Nat.reducePow, Int.reduceAdd, Int.reduceMul, Int.reduceSub, Int.reduceNeg, Nat.reduceAdd, Nat.reduceMul, Nat.reduceSub, Nat.reduceEqDiff, Nat.reduceLT, Nat.reduceLeDiff]) <;> (try omega)
  case h0_1 => exact nInv_0 (by omega)
  case round_1 =>
    rintro ⟨u, acc⟩ g
    dsimp only at g
    have g1 := g.1
    have g2 := g.2.1
    have hw : IntKind.i64.wrap ((u : Int) / 10) = ((u / 10 : Nat) : Int) := by rw [IntKind.wrap_i64]; omega
    repeat' (first
      | (with_reducible first | refine r_seq ?_ | refine r_block ?_ | refine fork_not ?_ | refine fork_and ?_ | refine fork_or ?_ | refine chk_ok (by kernel_rfl) ?_)
      | ((with_reducible first | refine fork_dec ?_ ?_ | refine fork_eq ?_ ?_ | refine fork_ne ?_ ?_ | refine fork_intro ?_ ?_) <;> intro h <;> try (exfalso; first | omega | exact h rfl | (revert h; decide) | (cases h; done)))
      | ((with_reducible show False); omega)
      | ((first | (with_reducible first | refine r_exit ?_ | refine r_skip ?_ | refine r_cond ?_ | refine r_region ?_ | show VX _ _ _ _ _ _ _ | show vstep _ _ _ _ _ | show vskip _ _ _ | show withV _ _) | ((with_reducible show endA _ _ _ _ _ _ _); simp -implicitDefEqProofs only [endA])); simp -dsimp -implicitDefEqProofs (maxSteps := 1000000) (disch := first | omega | (simp only [LN]; omega)) only [go_sem, Int.reduceToNat, Int.reducePow, Nat.reducePow, Int.reduceAdd, Int.reduceMul, Int.reduceSub, Int.reduceNeg, Nat.reduceAdd, Nat.reduceMul, Nat.reduceSub, Nat.reduceEqDiff, Nat.reduceLT, Nat.reduceLeDiff])
      | ((first | (with_reducible refine r_ret ?_) | (with_reducible refine pick_viewG default (by first | omega | (simp only [LN]; omega)) (by first | omega | (simp only [LN]; omega)) ?_) | (with_reducible refine pick_own default (by first | omega | (simp only [LN]; omega)) ?_) | (with_reducible refine And.intro (by first | decide | omega | assumption | (simp only [LN]; omega)) ?_) | ((with_reducible show pickE _ _ _); first | refine pickE_intro _ ⟨by omega, by rfl⟩ ?_ | refine pickE_intro _ (by rfl) ?_) | fail); try simp -dsimp -implicitDefEqProofs (maxSteps := 1000000) (disch := first | omega | (simp only [LN]; omega)) only [go_sem, Int.reduceToNat, Int.reducePow, Nat.reducePow, Int.reduceAdd, Int.reduceMul, Int.reduceSub, Int.reduceNeg, Nat.reduceAdd, Nat.reduceMul, Nat.reduceSub, Nat.reduceEqDiff, Nat.reduceLT, Nat.reduceLeDiff])
      | fail)
    all_goals first
      | (have hc : 0 < u ∨ acc = [] := by first | exact .inl (by omega) | exact .inr (by simpa using ‹decide (acc = []) = true›)
         refine loopQ_next (u / 10, UInt8.ofNat (48 + u % 10) :: acc) (nInv_s g hc) (nMs hc) ?_; (simp -dsimp -implicitDefEqProofs (maxSteps := 1000000) (disch := first | omega | (simp only [LN, tm10, td10, dU, hw]; omega)) only [go_sem, Int.reduceToNat, Int.reducePow, Nat.reducePow, Int.reduceAdd, Int.reduceMul, Int.reduceSub, Int.reduceNeg, Nat.reduceAdd, Nat.reduceMul, Nat.reduceSub, Nat.reduceEqDiff, Nat.reduceLT, Nat.reduceLeDiff, tm10, td10, dU, hw]; try trivial))
      | (have hn : ¬ acc = [] := by simpa using ‹decide (acc = []) = false›
         rw [nInv_end g (by omega) hn])
      | trace_state
end Go.Proofs.YtcnbngflehiphaaDoor
