/- Contracts of functions of this program, and the plain facts that they rest on. No conditions. -/
import Derived.Test.YtkmobahedfdikaaDoorD6
set_option linter.unusedSimpArgs false
set_option linter.unusedVariables false
namespace Go.Proofs.YtkmobahedfdikaaDoor
open Go Go.Ab
attribute [local irreducible] callK callF loopQ vstep vskip pickE hideP
open Go.RowKit
set_option maxRecDepth 100000
attribute [local go_sem] toList_bs ext_bs beq_dec bs_size bs_list bs_inj app_bs byteAt_bs
theorem idx_hit (x : UInt8) : ∀ (a b : List UInt8), x ∉ a → Lib.index (a ++ x :: b) [x] = a.length
  | [], b, _ => by simp [Lib.index, List.isPrefixOf]
  | y :: a, b, h => by
    have h1 : x ≠ y := fun e => h (by simp [e])
    have h2 := idx_hit x a b (fun hm => h (List.mem_cons_of_mem _ hm))
    show Lib.index (y :: (a ++ x :: b)) [x] = _
    rw [Lib.index, if_neg (by simp [List.isPrefixOf, h1]), h2, if_neg (by simp <;> omega)]
    simp
theorem idx_miss (x : UInt8) : ∀ s : List UInt8, x ∉ s → Lib.index s [x] = -1
  | [], _ => by simp [Lib.index]
  | y :: s, h => by
    have h1 : x ≠ y := fun e => h (by simp [e])
    have h2 := idx_miss x s (fun hm => h (List.mem_cons_of_mem _ hm))
    rw [Lib.index, if_neg (by simp [List.isPrefixOf, h1]), h2, if_pos (by decide)]
theorem cut_hit (x : UInt8) (a b : List UInt8) (h : x ∉ a) : Lib.cut (a ++ x :: b) [x] = (a, b, true) := by
  unfold Lib.cut
  rw [idx_hit x a b h, if_pos (by omega)]
  simp
theorem cut_miss (x : UInt8) (s : List UInt8) (h : x ∉ s) : Lib.cut s [x] = (s, [], false) := by
  unfold Lib.cut
  rw [idx_miss x s h, if_neg (by decide)]
theorem cut_call (s : List UInt8) (x : UInt8) (hl : s.length ≤ 100000000) {a b : List UInt8} {c : Bool} (hc : Lib.cut s [x] = (a, b, c)) : PCalls Tryd.prog 33 [.v (.string (bs s)), .v (.string ⟨#[x]⟩)] (.tup [.v (.string (bs a)), .v (.string (bs b)), .v (.bool c)]) := by
  refine pcalls_val ⟨_, rfl, rfl, by decide⟩ (u := .tuple #[.string (bs a), .string (bs b), .bool c]) (fun Z w => by simp only [Rep, Reps]; exact ⟨_, ⟨_, _, rfl, ⟨rfl, rfl⟩, _, _, rfl, ⟨rfl, rfl⟩, _, _, rfl, ⟨rfl, rfl⟩, rfl⟩, rfl⟩) fun Z w vals hz hv => ?_
  have e : vals = [.string (bs s), .string ⟨#[x]⟩] := by
    simp only [Reps, Rep] at hv
    obtain ⟨_, _, rfl, ⟨rfl, _⟩, _, _, rfl, ⟨rfl, _⟩, rfl⟩ := hv
    rfl
  subst e
  obtain ⟨m, hm⟩ := hz.gl.2.2
  have := Tryd.strings_Cut (bs s) ⟨#[x]⟩ m w (by rw [bs_size]; omega) hm
  rw [show (bs s).data.toList = s from rfl, show (ByteArray.mk #[x]).data.toList = [x] from rfl, hc] at this
  exact this.mono fun e w' ⟨he, n, hw⟩ => ⟨he, by rw [hw]; exact ⟨rfl, rfl, rfl, by simp, fun k hk => by simp⟩⟩
theorem c33h (a b : List UInt8) (x : UInt8) (h : x ∉ a) (hl : a.length + b.length ≤ 1000000) : PCalls Tryd.prog 33 [.v (.string (bs (a ++ x :: b))), .v (.string ⟨#[x]⟩)] (.tup [.v (.string (bs a)), .v (.string (bs b)), .v (.bool true)]) :=
  cut_call _ x (by simp; omega) (cut_hit x a b h)
theorem c33m (s : List UInt8) (x : UInt8) (h : x ∉ s) (hl : s.length ≤ 1000000) : PCalls Tryd.prog 33 [.v (.string (bs s)), .v (.string ⟨#[x]⟩)] (.tup [.v (.string (bs s)), .v (.string (bs [])), .v (.bool false)]) :=
  cut_call _ x (by omega) (cut_miss x s h)
/-- An error of the library's, by its type. -/
def errP : PV := .ifc 85 (.eptr [] 0)
theorem err_end {Z : Nat → Prop} {w w' : World} {N v : Nat} {cs : Array Value} {t : TypeId} {fr : Nat × Nat} (h1 : w.heap.size ≤ N) (h2 : w'.heap[N]? = some (.cells cs t fr)) :
    Rep (fun b => Z b ∨ (w.heap.size ≤ b ∧ b < w'.heap.size)) w' (.tup [.v (.int .u64 v), errP]) (.tuple #[.int .u64 v, .iface 85 (.pointer (some ⟨N, 0, none⟩))]) := by
  have hN : N < w'.heap.size := by
    rcases Nat.lt_or_ge N w'.heap.size with h | h
    · exact h
    · rw [Array.getElem?_eq_none h] at h2; cases h2
  simp only [Rep, Reps, errP]
  exact ⟨_, ⟨_, _, rfl, ⟨rfl, rfl⟩, _, _, rfl, ⟨_, ⟨[], N, 0, rfl, fun x hx => by simp at hx, rfl, .inr ⟨h1, hN⟩, fun i u hi => by simp at hi⟩, rfl⟩, rfl⟩, rfl⟩
theorem vals3 {Z : Nat → Prop} {w : World} {vals : List Value} {a b c : Value} (hv : Reps Z w [.v a, .v b, .v c] vals) : vals = [a, b, c] := by
  simp only [Reps, Rep] at hv
  obtain ⟨_, _, rfl, ⟨rfl, _⟩, _, _, rfl, ⟨rfl, _⟩, _, _, rfl, ⟨rfl, _⟩, rfl⟩ := hv
  rfl
theorem pu_ok {B : Int} {l : List UInt8} {u : Nat}
    (h : ∀ w, Calls Tryd.prog 39 #[.string (bs l), .int .i64 10, .int .i64 B] w fun e w' => e = .returned (.tuple #[.int .u64 u, .nilIface]) ∧ (w' = w ∨ w' = Lib.bytesWorld w 5 (bs l))) :
    PCalls Tryd.prog 39 [.v (.string (bs l)), .v (.int .i64 10), .v (.int .i64 B)] (.tup [.v (.int .u64 u), .v .nilIface]) := by
  refine pcalls_val ⟨_, rfl, rfl, by decide⟩ (u := .tuple #[.int .u64 u, .nilIface]) (fun Z w => by simp only [Rep, Reps]; exact ⟨_, ⟨_, _, rfl, ⟨rfl, rfl⟩, _, _, rfl, ⟨rfl, rfl⟩, rfl⟩, rfl⟩) fun Z w vals hz hv => ?_
  rw [vals3 hv]
  refine (h w).mono fun e w' ⟨he, hw⟩ => ⟨he, ?_⟩
  rcases hw with rfl | rfl
  · exact Below.refl _ _
  · exact Lib.bytesWorld_below _ _ _
theorem pu_bad {B : Int} {l : List UInt8} {u : Nat} {g : Nat} (hg : ∀ (Z : Nat → Prop) (w : World), Gl Z w → CellI w g)
    (h : ∀ (ev : Value) (w : World), w.cell? ⟨g, 0, none⟩ = some ev → (ev = .nilIface ∨ ∃ te pe, ev = .iface te pe) → Calls Tryd.prog 39 #[.string (bs l), .int .i64 10, .int .i64 B] w fun e w' => ∃ N, e = .returned (.tuple #[.int .u64 u, .iface 85 (.pointer (some ⟨N, 0, none⟩))]) ∧ w.heap.size ≤ N ∧ (∃ cs t fr, w'.heap[N]? = some (.cells cs t fr)) ∧ Below w.heap.size w w') :
    PCalls Tryd.prog 39 [.v (.string (bs l)), .v (.int .i64 10), .v (.int .i64 B)] (.tup [.v (.int .u64 u), errP]) := by
  refine pcalls_new ⟨_, rfl, rfl, by decide⟩ fun Z w vals hz hv => ?_
  rw [vals3 hv]
  obtain ⟨ev, he, hev⟩ := hg Z w hz.gl
  refine (h ev w he hev).mono fun e w' ⟨N, h1, h2, ⟨cs, t, fr, h3⟩, h4⟩ => ⟨_, h1, h4, err_end h2 h3⟩
/-- strconv.ParseUint. -/
theorem c39ok (B : Nat) (hB : B = 8 ∨ B = 16 ∨ B = 64) (l : List UInt8) (hl : l.length ≤ 1000000) (u : Nat) (h : Lib.parseUintB B l = .ok u) : PCalls Tryd.prog 39 [.v (.string (bs l)), .v (.int .i64 10), .v (.int .i64 B)] (.tup [.v (.int .u64 u), .v .nilIface]) := by
  rcases hB with rfl | rfl | rfl
  · exact pu_ok fun w => Tryd.strconv_ParseUint_10_at8_ok (bs l) (by rw [bs_size]; omega) u h w
  · exact pu_ok fun w => Tryd.strconv_ParseUint_10_at16_ok (bs l) (by rw [bs_size]; omega) u h w
  · exact pu_ok fun w => Tryd.strconv_ParseUint_10_at64_ok (bs l) (by rw [bs_size]; omega) u h w
theorem gES (Z : Nat → Prop) (w : World) (h : Gl Z w) : CellI w 2 := h.1.2.2.1
theorem gER (Z : Nat → Prop) (w : World) (h : Gl Z w) : CellI w 3 := h.1.2.2.2
theorem c39bad (B : Nat) (hB : B = 8 ∨ B = 16 ∨ B = 64) (l : List UInt8) (hl : l.length ≤ 1000000) (h : ∀ u, Lib.parseUintB B l ≠ .ok u) : ∃ v : Nat, PCalls Tryd.prog 39 [.v (.string (bs l)), .v (.int .i64 10), .v (.int .i64 B)] (.tup [.v (.int .u64 v), errP]) := by
  cases hp : Lib.parseUintB B l with
  | ok u => exact absurd hp (h u)
  | range =>
    rcases hB with rfl | rfl | rfl
    · exact ⟨_, pu_bad (u := 255) gER fun ev w he hev => (Any.strconv_ParseUint_10_at8_range Tryd.laysPu14 (bs l) (by rw [bs_size]; omega) hp ev w he hev).mono fun e w' ⟨N, h1, h2, h3, h4⟩ => ⟨N, h1, h2, ⟨_, _, _, h3⟩, h4⟩⟩
    · exact ⟨_, pu_bad (u := 65535) gER fun ev w he hev => (Any.strconv_ParseUint_10_at16_range Tryd.laysPu14 (bs l) (by rw [bs_size]; omega) hp ev w he hev).mono fun e w' ⟨N, h1, h2, h3, h4⟩ => ⟨N, h1, h2, ⟨_, _, _, h3⟩, h4⟩⟩
    · exact ⟨_, pu_bad (u := 18446744073709551615) gER fun ev w he hev => (Any.strconv_ParseUint_10_at64_range Tryd.laysPu14 (bs l) (by rw [bs_size]; omega) hp ev w he hev).mono fun e w' ⟨N, h1, h2, h3, h4⟩ => ⟨N, h1, h2, ⟨_, _, _, h3⟩, h4⟩⟩
  | _ =>
    rcases hB with rfl | rfl | rfl
    · exact ⟨_, pu_bad (u := 0) gES fun ev w he hev => (Any.strconv_ParseUint_10_at8_syntax Tryd.laysPu14 (bs l) (by rw [bs_size]; omega) hp ev w he hev).mono fun e w' ⟨N, h1, h2, h3, h4⟩ => ⟨N, h1, h2, ⟨_, _, _, h3⟩, h4⟩⟩
    · exact ⟨_, pu_bad (u := 0) gES fun ev w he hev => (Any.strconv_ParseUint_10_at16_syntax Tryd.laysPu14 (bs l) (by rw [bs_size]; omega) hp ev w he hev).mono fun e w' ⟨N, h1, h2, h3, h4⟩ => ⟨N, h1, h2, ⟨_, _, _, h3⟩, h4⟩⟩
    · exact ⟨_, pu_bad (u := 0) gES fun ev w he hev => (Any.strconv_ParseUint_10_at64_syntax Tryd.laysPu14 (bs l) (by rw [bs_size]; omega) hp ev w he hev).mono fun e w' ⟨N, h1, h2, h3, h4⟩ => ⟨N, h1, h2, ⟨_, _, _, h3⟩, h4⟩⟩
attribute [local go_sem] errP
set_option maxRecDepth 100000 in
set_option maxHeartbeats 4000000 in
theorem c34ok (B : Nat) (hB : B = 8 ∨ B = 16 ∨ B = 64) (l : List UInt8) (hl : l.length ≤ 1000000) (u : Nat) (h : numR B l = some u) : PCalls Tryd.prog 34 [.v (.string (bs l)), .v (.int .i64 B)] (.tup [.v (.int .u64 u), .v (.bool true)]) := by
  refine pcalls_of (E := E) (fn := Tryd.f34) 25 [.tmp 4, .tmp 5] rfl rfl rfl rfl (by decide) rfl ?_
  have hz : ¬ (1 < l.length ∧ l.getD 0 0 = 48) := fun hz => by unfold numR at h; rw [if_pos hz] at h; cases h
  have hp : Lib.parseUintB B l = .ok u := by
    unfold numR at h
    rw [if_neg hz] at h
    cases hp : Lib.parseUintB B l with
    | ok v => rw [hp] at h; rw [Option.some.inj h]
    | _ => rw [hp] at h; cases h
  have cp := c39ok B hB l hl u hp
  have hz2 : 1 < l.length → ¬ (l.getD 0 0).toNat = 48 := fun h1 h2 => hz ⟨h1, u8_ext h2⟩
  repeat' (first
    | (with_reducible first | refine r_seq ?_ | refine r_block ?_ | refine fork_not ?_ | refine fork_and ?_ | refine fork_or ?_ | refine chk_ok (by kernel_rfl) ?_)
    | ((with_reducible first | refine fork_dec ?_ ?_ | refine fork_eq ?_ ?_ | refine fork_ne ?_ ?_ | refine fork_intro ?_ ?_) <;> intro h <;> try (exfalso; first | omega | exact h rfl | (revert h; decide) | (cases h; done)))
    | ((with_reducible show False); omega)
    | ((first | (with_reducible first | refine r_exit ?_ | refine r_skip ?_ | refine r_cond ?_ | refine r_region ?_ | show VX _ _ _ _ _ _ _ | show vstep _ _ _ _ _ | show vskip _ _ _ | show withV _ _) | ((with_reducible show endA _ _ _ _ _ _ _); simp -implicitDefEqProofs only [endA])); simp -dsimp -implicitDefEqProofs (maxSteps := 1000000) (disch := first | omega | (simp only [LN]; omega)) only [go_sem, Int.reduceToNat, Int.reducePow, Nat.reducePow, Int.reduceAdd, Int.reduceMul, Int.reduceSub, Int.reduceNeg, Nat.reduceAdd, Nat.reduceMul, Nat.reduceSub, Nat.reduceEqDiff, Nat.reduceLT, Nat.reduceLeDiff])
    | ((first | (with_reducible refine r_ret ?_) | (with_reducible refine pick_viewG default (by first | omega | (simp only [LN]; omega)) (by first | omega | (simp only [LN]; omega)) ?_) | (with_reducible refine pick_own default (by first | omega | (simp only [LN]; omega)) ?_) | (with_reducible refine And.intro (by first | decide | omega | assumption | (simp only [LN]; omega)) ?_) | ((with_reducible apply callK_pure); (exact cp)) | ((with_reducible apply callF_lend); (exact cp); rfl) | ((with_reducible apply callF_go); (exact cp)) | ((with_reducible show pickE _ _ _); first | refine pickE_intro _ ⟨by omega, by rfl⟩ ?_ | refine pickE_intro _ (by rfl) ?_) | fail); try simp -dsimp -implicitDefEqProofs (maxSteps := 1000000) (disch := first | omega | (simp only [LN]; omega)) only [go_sem, Int.reduceToNat, Int.reducePow, Nat.reducePow, Int.reduceAdd, Int.reduceMul, Int.reduceSub, Int.reduceNeg, Nat.reduceAdd, Nat.reduceMul, Nat.reduceSub, Nat.reduceEqDiff, Nat.reduceLT, Nat.reduceLeDiff])
    | fail)
  all_goals first | rfl | omega | (exfalso; have := hz2 (by omega); omega) | trace_state
set_option maxRecDepth 100000 in
set_option maxHeartbeats 4000000 in
theorem c34z (B : Nat) (l : List UInt8) (hl : l.length ≤ 1000000) (hz : 1 < l.length ∧ l.getD 0 0 = 48) : PCalls Tryd.prog 34 [.v (.string (bs l)), .v (.int .i64 B)] (.tup [.v (.int .u64 0), .v (.bool false)]) := by
  refine pcalls_of (E := E) (fn := Tryd.f34) 25 [.tmp 4, .tmp 5] rfl rfl rfl rfl (by decide) rfl ?_
  have hz2 : (l.getD 0 0).toNat = 48 := by rw [hz.2]; rfl
  obtain ⟨hz1, _⟩ := hz
  repeat' (first
    | (with_reducible first | refine r_seq ?_ | refine r_block ?_ | refine fork_not ?_ | refine fork_and ?_ | refine fork_or ?_ | refine chk_ok (by kernel_rfl) ?_)
    | ((with_reducible first | refine fork_dec ?_ ?_ | refine fork_eq ?_ ?_ | refine fork_ne ?_ ?_ | refine fork_intro ?_ ?_) <;> intro h <;> try (exfalso; first | omega | exact h rfl | (revert h; decide) | (cases h; done)))
    | ((with_reducible show False); omega)
    | ((first | (with_reducible first | refine r_exit ?_ | refine r_skip ?_ | refine r_cond ?_ | refine r_region ?_ | show VX _ _ _ _ _ _ _ | show vstep _ _ _ _ _ | show vskip _ _ _ | show withV _ _) | ((with_reducible show endA _ _ _ _ _ _ _); simp -implicitDefEqProofs only [endA])); simp -dsimp -implicitDefEqProofs (maxSteps := 1000000) (disch := first | omega | (simp only [LN]; omega)) only [go_sem, Int.reduceToNat, Int.reducePow, Nat.reducePow, Int.reduceAdd, Int.reduceMul, Int.reduceSub, Int.reduceNeg, Nat.reduceAdd, Nat.reduceMul, Nat.reduceSub, Nat.reduceEqDiff, Nat.reduceLT, Nat.reduceLeDiff])
    | ((first | (with_reducible refine r_ret ?_) | (with_reducible refine pick_viewG default (by first | omega | (simp only [LN]; omega)) (by first | omega | (simp only [LN]; omega)) ?_) | (with_reducible refine pick_own default (by first | omega | (simp only [LN]; omega)) ?_) | (with_reducible refine And.intro (by first | decide | omega | assumption | (simp only [LN]; omega)) ?_) | ((with_reducible show pickE _ _ _); first | refine pickE_intro _ ⟨by omega, by rfl⟩ ?_ | refine pickE_intro _ (by rfl) ?_) | fail); try simp -dsimp -implicitDefEqProofs (maxSteps := 1000000) (disch := first | omega | (simp only [LN]; omega)) only [go_sem, Int.reduceToNat, Int.reducePow, Nat.reducePow, Int.reduceAdd, Int.reduceMul, Int.reduceSub, Int.reduceNeg, Nat.reduceAdd, Nat.reduceMul, Nat.reduceSub, Nat.reduceEqDiff, Nat.reduceLT, Nat.reduceLeDiff])
    | fail)
  all_goals first | rfl | omega | trace_state
set_option maxRecDepth 100000 in
set_option maxHeartbeats 4000000 in
theorem c34e (B : Nat) (l : List UInt8) (hl : l.length ≤ 1000000) (hz : ¬ (1 < l.length ∧ l.getD 0 0 = 48)) (v : Nat) (cp : PCalls Tryd.prog 39 [.v (.string (bs l)), .v (.int .i64 10), .v (.int .i64 B)] (.tup [.v (.int .u64 v), errP])) : PCalls Tryd.prog 34 [.v (.string (bs l)), .v (.int .i64 B)] (.tup [.v (.int .u64 v), .v (.bool false)]) := by
  refine pcalls_of (E := E) (fn := Tryd.f34) 25 [.tmp 4, .tmp 5] rfl rfl rfl rfl (by decide) rfl ?_
  have hz2 : 1 < l.length → ¬ (l.getD 0 0).toNat = 48 := fun h1 h2 => hz ⟨h1, u8_ext h2⟩
  repeat' (first
    | (with_reducible first | refine r_seq ?_ | refine r_block ?_ | refine fork_not ?_ | refine fork_and ?_ | refine fork_or ?_ | refine chk_ok (by kernel_rfl) ?_)
    | ((with_reducible first | refine fork_dec ?_ ?_ | refine fork_eq ?_ ?_ | refine fork_ne ?_ ?_ | refine fork_intro ?_ ?_) <;> intro h <;> try (exfalso; first | omega | exact h rfl | (revert h; decide) | (cases h; done)))
    | ((with_reducible show False); omega)
    | ((first | (with_reducible first | refine r_exit ?_ | refine r_skip ?_ | refine r_cond ?_ | refine r_region ?_ | show VX _ _ _ _ _ _ _ | show vstep _ _ _ _ _ | show vskip _ _ _ | show withV _ _) | ((with_reducible show endA _ _ _ _ _ _ _); simp -implicitDefEqProofs only [endA])); simp -dsimp -implicitDefEqProofs (maxSteps := 1000000) (disch := first | omega | (simp only [LN]; omega)) only [go_sem, Int.reduceToNat, Int.reducePow, Nat.reducePow, Int.reduceAdd, Int.reduceMul, Int.reduceSub, Int.reduceNeg, Nat.reduceAdd, Nat.reduceMul, Nat.reduceSub, Nat.reduceEqDiff, Nat.reduceLT, Nat.reduceLeDiff])
    | ((first | (with_reducible refine r_ret ?_) | (with_reducible refine pick_viewG default (by first | omega | (simp only [LN]; omega)) (by first | omega | (simp only [LN]; omega)) ?_) | (with_reducible refine pick_own default (by first | omega | (simp only [LN]; omega)) ?_) | (with_reducible refine And.intro (by first | decide | omega | assumption | (simp only [LN]; omega)) ?_) | ((with_reducible apply callK_pure); (exact cp)) | ((with_reducible apply callF_lend); (exact cp); rfl) | ((with_reducible apply callF_go); (exact cp)) | ((with_reducible show pickE _ _ _); first | refine pickE_intro _ ⟨by omega, by rfl⟩ ?_ | refine pickE_intro _ (by rfl) ?_) | fail); try simp -dsimp -implicitDefEqProofs (maxSteps := 1000000) (disch := first | omega | (simp only [LN]; omega)) only [go_sem, Int.reduceToNat, Int.reducePow, Nat.reducePow, Int.reduceAdd, Int.reduceMul, Int.reduceSub, Int.reduceNeg, Nat.reduceAdd, Nat.reduceMul, Nat.reduceSub, Nat.reduceEqDiff, Nat.reduceLT, Nat.reduceLeDiff])
    | fail)
  all_goals first | rfl | omega | (exfalso; have := hz2 (by omega); omega) | trace_state
theorem c34bad (B : Nat) (hB : B = 8 ∨ B = 16 ∨ B = 64) (l : List UInt8) (hl : l.length ≤ 1000000) (h : numR B l = none) : ∃ v : Nat, PCalls Tryd.prog 34 [.v (.string (bs l)), .v (.int .i64 B)] (.tup [.v (.int .u64 v), .v (.bool false)]) := by
  by_cases hz : 1 < l.length ∧ l.getD 0 0 = 48
  · exact ⟨0, c34z B l hl hz⟩
  · obtain ⟨v, cp⟩ := c39bad B hB l hl (fun u hu => by unfold numR at h; rw [if_neg hz, hu] at h; cases h)
    exact ⟨v, c34e B l hl hz v cp⟩
theorem c34any (B : Nat) (hB : B = 8 ∨ B = 16 ∨ B = 64) (l : List UInt8) (hl : l.length ≤ 1000000) : ∃ (v : Nat) (b : Bool), PCalls Tryd.prog 34 [.v (.string (bs l)), .v (.int .i64 B)] (.tup [.v (.int .u64 v), .v (.bool b)]) ∧ (b = true → numR B l = some v) := by
  cases h : numR B l with
  | none => obtain ⟨v, c⟩ := c34bad B hB l hl h; exact ⟨v, false, c, fun e => by cases e⟩
  | some u => exact ⟨u, true, c34ok B hB l hl u h, fun _ => rfl⟩
/-! The reference. -/
theorem tm10 (u : Nat) : Int.tmod (u : Int) 10 = (u : Int) % 10 := rfl
theorem td10 (u : Nat) : Int.tdiv (u : Int) 10 = (u : Int) / 10 := rfl
theorem dU (u : Nat) : UInt8.ofNat (IntKind.u8.wrap (IntKind.u64.wrap (48 + (u : Int) % 10))).toNat = UInt8.ofNat (48 + u % 10) := by
  rw [wr8, wr64]; congr 1; omega
def NInv (n u : Nat) (acc : List UInt8) : Prop := u ≤ n ∧ acc.length ≤ 20 ∧ (u = 0 ∧ acc = Lib.decDigits n ∨ (0 < u ∨ acc = []) ∧ acc.length + Lib.nDigits u ≤ 20 ∧ Lib.decDigits n = Lib.decDigits u ++ acc)
theorem nInv_0 {n : Nat} (h : n ≤ 18446744073709551615) : NInv n n [] := ⟨Nat.le_refl _, Nat.zero_le _, .inr ⟨by simp, by simpa using Lib.nDigits_le20 n (by omega), by simp⟩⟩
theorem nInv_s {n u : Nat} {acc : List UInt8} (h : NInv n u acc) (hc : 0 < u ∨ acc = []) : NInv n (u / 10) (UInt8.ofNat (48 + u % 10) :: acc) := by
  obtain ⟨h1, h2, h3⟩ := h
  rcases h3 with ⟨h3, h4⟩ | ⟨_, h4, h5⟩
  · rcases hc with hc | hc
    · omega
    · rw [hc] at h4; exact absurd h4.symm (dec_ne n)
  · by_cases h6 : u < 10
    · rw [Lib.nDigits_small h6] at h4
      rw [dec_one u h6] at h5
      refine ⟨by omega, by simp only [List.length_cons]; omega, .inl ⟨by omega, ?_⟩⟩
      rw [h5, show u % 10 = u by omega]; rfl
    · rw [Lib.nDigits_big h6] at h4
      rw [dec_step u h6, List.append_assoc] at h5
      exact ⟨by omega, by simp only [List.length_cons]; have := Lib.nDigits_pos (u / 10); omega, .inr ⟨.inl (by omega), by simp only [List.length_cons]; omega, h5⟩⟩
theorem nInv_end {n u : Nat} {acc : List UInt8} (h : NInv n u acc) (hu : ¬ 0 < u) (ha : ¬ acc = []) : acc = Lib.decDigits n := by
  rcases h.2.2 with ⟨_, h4⟩ | ⟨h4, _⟩
  · exact h4
  · rcases h4 with h4 | h4
    · exact absurd h4 hu
    · exact absurd h4 ha
theorem nMs {u : Nat} {acc : List UInt8} {x : UInt8} (hc : 0 < u ∨ acc = []) : u / 10 + (if x :: acc = [] then 1 else 0) < u + (if acc = [] then 1 else 0) := by
  rw [if_neg (by simp)]
  split
  · omega
  · rcases hc with hc | hc
    · omega
    · rename_i h; exact absurd hc h
set_option maxRecDepth 100000 in
set_option maxHeartbeats 4000000 in
theorem c35 (n : Nat) (h1 : n ≤ 18446744073709551615) : PCalls Tryd.prog 35 [.v (.int .u64 n)] (.v (.string (bs (Lib.decDigits n)))) := by
  refine pcalls_of (E := E) (fn := Tryd.f35) 21 [.tmp 2] rfl rfl rfl rfl (by decide) rfl ?_
  repeat' (first
    | (with_reducible first | refine r_seq ?_ | refine r_block ?_ | refine fork_not ?_ | refine fork_and ?_ | refine fork_or ?_ | refine chk_ok (by kernel_rfl) ?_)
    | ((with_reducible first | refine fork_dec ?_ ?_ | refine fork_eq ?_ ?_ | refine fork_ne ?_ ?_ | refine fork_intro ?_ ?_) <;> intro h)
    | ((with_reducible show False); omega)
    | ((first | (with_reducible first | refine r_exit ?_ | refine r_skip ?_ | refine r_cond ?_ | refine r_region ?_ | show VX _ _ _ _ _ _ _ | show vstep _ _ _ _ _ | show vskip _ _ _ | show withV _ _) | ((with_reducible show endA _ _ _ _ _ _ _); simp -implicitDefEqProofs only [endA])); simp -dsimp -implicitDefEqProofs (maxSteps := 1000000) (disch := first | omega | (simp only [LN]; omega)) only [go_sem, Int.reduceToNat, Int.reducePow, Nat.reducePow, Int.reduceAdd, Int.reduceMul, Int.reduceSub, Int.reduceNeg, Nat.reduceAdd, Nat.reduceMul, Nat.reduceSub, Nat.reduceEqDiff, Nat.reduceLT, Nat.reduceLeDiff])
    | ((first | (with_reducible refine r_ret ?_) | (with_reducible refine pick_viewG default (by first | omega | (simp only [LN]; omega)) (by first | omega | (simp only [LN]; omega)) ?_) | (with_reducible refine pick_own default (by first | omega | (simp only [LN]; omega)) ?_) | (with_reducible refine And.intro (by first | decide | omega | assumption | (simp only [LN]; omega)) ?_) | ((with_reducible show pickE _ _ _); first | refine pickE_intro _ ⟨by omega, by rfl⟩ ?_ | refine pickE_intro _ (by rfl) ?_) | fail); try simp -dsimp -implicitDefEqProofs (maxSteps := 1000000) (disch := first | omega | (simp only [LN]; omega)) only [go_sem, Int.reduceToNat, Int.reducePow, Nat.reducePow, Int.reduceAdd, Int.reduceMul, Int.reduceSub, Int.reduceNeg, Nat.reduceAdd, Nat.reduceMul, Nat.reduceSub, Nat.reduceEqDiff, Nat.reduceLT, Nat.reduceLeDiff])
    | fail)
  refine r_loopA (α := Nat × List UInt8) [] (fun q b => [(0, .p (.v (.int .u64 q.1))), (3, .p (.v (.string (bs q.2))))]) (fun q b => []) (fun q => []) (fun q => NInv n q.1 q.2) (fun q => q.1 + (if q.2 = [] then 1 else 0)) ((n, [])) ?h0_1 ?hs0_1 ?I_1 ?hI_1 ?round_1
  case hI_1 => intro x; (simp -dsimp -implicitDefEqProofs (maxSteps := 1000000) (disch := first | omega | (simp only [LN]; omega)) only [go_sem, Int.reduceToNat, Int.reducePow, Nat.reducePow, Int.reduceAdd, Int.reduceMul, Int.reduceSub, Int.reduceNeg, Nat.reduceAdd, Nat.reduceMul, Nat.reduceSub, Nat.reduceEqDiff, Nat.reduceLT, Nat.reduceLeDiff]) <;> exact rfl
  case hs0_1 => refine wk_auto ?_; (simp -dsimp -implicitDefEqProofs (maxSteps := 1000000) (disch := first | omega | (simp only [LN]; omega)) only [go_sem, Int.reduceToNat, Int.reducePow, Nat.reducePow, Int.reduceAdd, Int.reduceMul, Int.reduceSub, Int.reduceNeg, Nat.reduceAdd, Nat.reduceMul, Nat.reduceSub, Nat.reduceEqDiff, Nat.reduceLT, Nat.reduceLeDiff]) <;> (try omega)
  case h0_1 => exact nInv_0 h1
  case round_1 =>
    rintro ⟨u, acc⟩ g
    dsimp only at g
    have g1 := g.1
    have g2 := g.2.1
    have hw : IntKind.u64.wrap ((u : Int) / 10) = ((u / 10 : Nat) : Int) := by rw [wr64]; omega
    repeat' (first
      | (with_reducible first | refine r_seq ?_ | refine r_block ?_ | refine fork_not ?_ | refine fork_and ?_ | refine fork_or ?_ | refine chk_ok (by kernel_rfl) ?_)
      | ((with_reducible first | refine fork_dec ?_ ?_ | refine fork_eq ?_ ?_ | refine fork_ne ?_ ?_ | refine fork_intro ?_ ?_) <;> intro h <;> try (exfalso; first | omega | exact h rfl | (revert h; decide) | (cases h; done)))
      | ((with_reducible show False); omega)
      | ((first | (with_reducible first | refine r_exit ?_ | refine r_skip ?_ | refine r_cond ?_ | refine r_region ?_ | show VX _ _ _ _ _ _ _ | show vstep _ _ _ _ _ | show vskip _ _ _ | show withV _ _) | ((with_reducible show endA _ _ _ _ _ _ _); simp -implicitDefEqProofs only [endA])); simp -dsimp -implicitDefEqProofs (maxSteps := 1000000) (disch := first | omega | (simp only [LN]; omega)) only [go_sem, Int.reduceToNat, Int.reducePow, Nat.reducePow, Int.reduceAdd, Int.reduceMul, Int.reduceSub, Int.reduceNeg, Nat.reduceAdd, Nat.reduceMul, Nat.reduceSub, Nat.reduceEqDiff, Nat.reduceLT, Nat.reduceLeDiff])
      | ((first | (with_reducible refine r_ret ?_) | (with_reducible refine pick_viewG default (by first | omega | (simp only [LN]; omega)) (by first | omega | (simp only [LN]; omega)) ?_) | (with_reducible refine pick_own default (by first | omega | (simp only [LN]; omega)) ?_) | (with_reducible refine And.intro (by first | decide | omega | assumption | (simp only [LN]; omega)) ?_) | ((with_reducible show pickE _ _ _); first | refine pickE_intro _ ⟨by omega, by rfl⟩ ?_ | refine pickE_intro _ (by rfl) ?_) | fail); try simp -dsimp -implicitDefEqProofs (maxSteps := 1000000) (disch := first | omega | (simp only [LN]; omega)) only [go_sem, Int.reduceToNat, Int.reducePow, Nat.reducePow, Int.reduceAdd, Int.reduceMul, Int.reduceSub, Int.reduceNeg, Nat.reduceAdd, Nat.reduceMul, Nat.reduceSub, Nat.reduceEqDiff, Nat.reduceLT, Nat.reduceLeDiff])
      | fail)
    all_goals first
      | (have hc : 0 < u ∨ acc = [] := by first | exact .inl (by omega) | exact .inr (by simpa using ‹decide (acc = []) = true›)
         refine loopQ_next (u / 10, UInt8.ofNat (48 + u % 10) :: acc) (nInv_s g hc) (nMs hc) ?_; (simp -dsimp -implicitDefEqProofs (maxSteps := 1000000) (disch := first | omega | (simp only [LN, tm10, td10, dU, hw]; omega)) only [go_sem, Int.reduceToNat, Int.reducePow, Nat.reducePow, Int.reduceAdd, Int.reduceMul, Int.reduceSub, Int.reduceNeg, Nat.reduceAdd, Nat.reduceMul, Nat.reduceSub, Nat.reduceEqDiff, Nat.reduceLT, Nat.reduceLeDiff, tm10, td10, dU, hw]; try trivial))
      | (have hn : ¬ acc = [] := by simpa using ‹decide (acc = []) = false›
         rw [nInv_end g (by omega) hn])
      | trace_state
/-- What the reference's number reads. -/
def kN (l : List UInt8) : Nat := pre 11 l
def okN (l : List UInt8) : Bool := decide (0 < kN l) && (decide (kN l = 1) || !decide ((l.getD 0 0).toNat = 48))
theorem take_val {l : List UInt8} {i : Nat} (h : i < l.length) : valA 0 (l.take (i + 1)) = valA 0 (l.take i) * 10 + ((l.getD i 0).toNat - 48) := by
  rw [List.take_add_one, List.getD_eq_getElem?_getD, List.getElem?_eq_getElem h]
  show valA 0 (l.take i ++ [l[i]]) = _
  rw [valA_app]; rfl
theorem take_dig {l : List UInt8} {i : Nat} (h : ∀ j, j < i → Dig (l.getD j 0)) : ∀ c, c ∈ l.take i → Dig c := by
  intro c hc
  obtain ⟨j, hj, rfl⟩ := List.mem_iff_getElem.1 hc
  have h1 : j < i := by rw [List.length_take] at hj; omega
  have h2 : j < l.length := by rw [List.length_take] at hj; omega
  have := h j h1
  rw [List.getD_eq_getElem?_getD, List.getElem?_eq_getElem h2] at this
  rw [List.getElem_take]; exact this
theorem val_small {l : List UInt8} {i : Nat} (h : ∀ j, j < i → Dig (l.getD j 0)) (hi : i ≤ 11) : valA 0 (l.take i) < 100000000000 := by
  have h1 := val_lt (l.take i) 0 (take_dig h)
  have h2 : (l.take i).length ≤ 11 := by rw [List.length_take]; omega
  have h3 := Nat.pow_le_pow_right (show 0 < 10 by decide) h2
  have h4 : (10 : Nat) ^ 11 = 100000000000 := by decide
  omega
theorem digI {c : UInt8} (h1 : 48 ≤ (c.toNat : Int)) (h2 : (c.toNat : Int) ≤ 57) : Dig c := ⟨by omega, by omega⟩
theorem ext_dig {l : List UInt8} {i : Nat} (h : ∀ j, j < i → Dig (l.getD j 0)) (hi : Dig (l.getD i 0)) : ∀ j, j < i + 1 → Dig (l.getD j 0) := fun j hj => by
  rcases Nat.lt_or_ge j i with h1 | h1
  · exact h j h1
  · obtain rfl : j = i := by omega
    exact hi
theorem bne48 (x : Nat) : ((x : Int) != 48) = !decide (x = 48) := by
  by_cases h : x = 48
  · subst h; rfl
  · rw [decide_eq_false h, Bool.not_false]; exact bne_iff_ne.2 (by omega)
theorem valA_0 : valA 0 [] = 0 := rfl
theorem kEnd {l : List UInt8} {i : Nat} (e : kN l = i) {b : Bool} (hb : b = okN l) : Value.int IntKind.u64 (valA 0 (l.take i) : Int) = Value.int IntKind.u64 (valA 0 (l.take (kN l)) : Int) ∧ Value.string { data := (l.drop i).toArray } = Value.string (bs (l.drop (kN l))) ∧ Value.bool b = Value.bool (okN l) := by
  subst e; subst hb; exact ⟨rfl, rfl, rfl⟩
theorem ok_0 {l : List UInt8} (e : kN l = 0) : false = okN l := by unfold okN; rw [e]; rfl
theorem ok_1 {l : List UInt8} (e : kN l = 1) : true = okN l := by unfold okN; rw [e]; rfl
theorem ok_2 {l : List UInt8} {i : Nat} (e : kN l = i) (h : 0 < i) (h1 : ¬ i = 1) : (((l.getD 0 0).toNat : Int) != 48) = okN l := by
  unfold okN; rw [e, decide_eq_true h, decide_eq_false h1, bne48]; simp
set_option maxRecDepth 100000 in
set_option maxHeartbeats 4000000 in
theorem c36 (l : List UInt8) (hl : l.length ≤ 1000000) : PCalls Tryd.prog 36 [.v (.string (bs l))] (.tup [.v (.int .u64 (valA 0 (l.take (kN l)))), .v (.string (bs (l.drop (kN l)))), .v (.bool (okN l))]) := by
  refine pcalls_of (E := E) (fn := Tryd.f36) 52 [.tmp 2, .tmp 3, .tmp 4] rfl rfl rfl rfl (by decide) rfl ?_
  repeat' (first
    | (with_reducible first | refine r_seq ?_ | refine r_block ?_ | refine fork_not ?_ | refine fork_and ?_ | refine fork_or ?_ | refine chk_ok (by kernel_rfl) ?_)
    | ((with_reducible first | refine fork_dec ?_ ?_ | refine fork_eq ?_ ?_ | refine fork_ne ?_ ?_ | refine fork_intro ?_ ?_) <;> intro h)
    | ((with_reducible show False); omega)
    | ((first | (with_reducible first | refine r_exit ?_ | refine r_skip ?_ | refine r_cond ?_ | refine r_region ?_ | show VX _ _ _ _ _ _ _ | show vstep _ _ _ _ _ | show vskip _ _ _ | show withV _ _) | ((with_reducible show endA _ _ _ _ _ _ _); simp -implicitDefEqProofs only [endA])); simp -dsimp -implicitDefEqProofs (maxSteps := 1000000) (disch := first | omega | (simp only [LN]; omega)) only [go_sem, Int.reduceToNat, Int.reducePow, Nat.reducePow, Int.reduceAdd, Int.reduceMul, Int.reduceSub, Int.reduceNeg, Nat.reduceAdd, Nat.reduceMul, Nat.reduceSub, Nat.reduceEqDiff, Nat.reduceLT, Nat.reduceLeDiff])
    | ((first | (with_reducible refine r_ret ?_) | (with_reducible refine pick_viewG default (by first | omega | (simp only [LN]; omega)) (by first | omega | (simp only [LN]; omega)) ?_) | (with_reducible refine pick_own default (by first | omega | (simp only [LN]; omega)) ?_) | (with_reducible refine And.intro (by first | decide | omega | assumption | (simp only [LN]; omega)) ?_) | ((with_reducible show pickE _ _ _); first | refine pickE_intro _ ⟨by omega, by rfl⟩ ?_ | refine pickE_intro _ (by rfl) ?_) | fail); try simp -dsimp -implicitDefEqProofs (maxSteps := 1000000) (disch := first | omega | (simp only [LN]; omega)) only [go_sem, Int.reduceToNat, Int.reducePow, Nat.reducePow, Int.reduceAdd, Int.reduceMul, Int.reduceSub, Int.reduceNeg, Nat.reduceAdd, Nat.reduceMul, Nat.reduceSub, Nat.reduceEqDiff, Nat.reduceLT, Nat.reduceLeDiff])
    | fail)
  refine r_loopA (α := Nat) [0] (fun i b => [(5, .p (.v (.int .u64 (valA 0 (l.take i))))), (6, aI i)]) (fun i b => []) (fun i => []) (fun i => i ≤ l.length ∧ i ≤ 11 ∧ ∀ j, j < i → Dig (l.getD j 0)) (fun i => l.length - i) (0) ?h0_2 ?hs0_2 ?I_2 ?hI_2 ?round_2
  case hI_2 => intro x; (simp -dsimp -implicitDefEqProofs (maxSteps := 1000000) (disch := first | omega | (simp only [LN]; omega)) only [go_sem, Int.reduceToNat, Int.reducePow, Nat.reducePow, Int.reduceAdd, Int.reduceMul, Int.reduceSub, Int.reduceNeg, Nat.reduceAdd, Nat.reduceMul, Nat.reduceSub, Nat.reduceEqDiff, Nat.reduceLT, Nat.reduceLeDiff]) <;> exact rfl
  case hs0_2 => refine wk_auto ?_; (simp -dsimp -implicitDefEqProofs (maxSteps := 1000000) (disch := first | omega | (simp only [LN, List.take_zero, valA_0]; omega)) only [go_sem, Int.reduceToNat, Int.reducePow, Nat.reducePow, Int.reduceAdd, Int.reduceMul, Int.reduceSub, Int.reduceNeg, Nat.reduceAdd, Nat.reduceMul, Nat.reduceSub, Nat.reduceEqDiff, Nat.reduceLT, Nat.reduceLeDiff, List.take_zero, valA_0]) <;> (try omega)
  case h0_2 => exact ⟨Nat.zero_le _, Nat.zero_le _, fun j hj => absurd hj (by omega)⟩
  case round_2 =>
    intro i hi
    obtain ⟨hi1, hi2, hi3⟩ := hi
    have hv := val_small hi3 hi2
    repeat' (first
      | (with_reducible first | refine r_seq ?_ | refine r_block ?_ | refine fork_not ?_ | refine fork_and ?_ | refine fork_or ?_ | refine chk_ok (by kernel_rfl) ?_)
      | ((with_reducible first | refine fork_dec ?_ ?_ | refine fork_eq ?_ ?_ | refine fork_ne ?_ ?_ | refine fork_intro ?_ ?_) <;> intro h <;> try (exfalso; first | omega | exact h rfl | (revert h; decide) | (cases h; done)))
      | ((with_reducible show False); omega)
      | ((first | (with_reducible first | refine r_exit ?_ | refine r_skip ?_ | refine r_cond ?_ | refine r_region ?_ | show VX _ _ _ _ _ _ _ | show vstep _ _ _ _ _ | show vskip _ _ _ | show withV _ _) | ((with_reducible show endA _ _ _ _ _ _ _); simp -implicitDefEqProofs only [endA])); simp -dsimp -implicitDefEqProofs (maxSteps := 1000000) (disch := first | omega | (simp only [LN]; omega)) only [go_sem, Int.reduceToNat, Int.reducePow, Nat.reducePow, Int.reduceAdd, Int.reduceMul, Int.reduceSub, Int.reduceNeg, Nat.reduceAdd, Nat.reduceMul, Nat.reduceSub, Nat.reduceEqDiff, Nat.reduceLT, Nat.reduceLeDiff])
      | ((first | (with_reducible refine r_ret ?_) | (with_reducible refine pick_viewG default (by first | omega | (simp only [LN]; omega)) (by first | omega | (simp only [LN]; omega)) ?_) | (with_reducible refine pick_own default (by first | omega | (simp only [LN]; omega)) ?_) | (with_reducible refine And.intro (by first | decide | omega | assumption | (simp only [LN]; omega)) ?_) | ((with_reducible show pickE _ _ _); first | refine pickE_intro _ ⟨by omega, by rfl⟩ ?_ | refine pickE_intro _ (by rfl) ?_) | fail); try simp -dsimp -implicitDefEqProofs (maxSteps := 1000000) (disch := first | omega | (simp only [LN]; omega)) only [go_sem, Int.reduceToNat, Int.reducePow, Nat.reducePow, Int.reduceAdd, Int.reduceMul, Int.reduceSub, Int.reduceNeg, Nat.reduceAdd, Nat.reduceMul, Nat.reduceSub, Nat.reduceEqDiff, Nat.reduceLT, Nat.reduceLeDiff])
      | fail)
    all_goals first
      | (have hd : Dig (l.getD i 0) := digI (by omega) (by omega)
         have hd2 := hd.1
         have hd3 := hd.2
         have ht := take_val (l := l) (i := i) (by omega)
         have hv2 := val_small (ext_dig hi3 hd) (by omega)
         have hw : IntKind.u64.wrap (IntKind.u64.wrap (10 * (valA 0 (l.take i) : Int)) + IntKind.u64.wrap (IntKind.u8.wrap (((l.getD i 0).toNat : Int) - 48))) = (valA 0 (l.take (i + 1)) : Int) := by rw [ht, wr64, wr64, wr64, wr8]; omega
         have hw2 : IntKind.u64.wrap (10 * (valA 0 (l.take i) : Int) + (((l.getD i 0).toNat : Int) - 48)) = (valA 0 (l.take (i + 1)) : Int) := by rw [ht, wr64]; omega
         (refine loopQ_next (i + 1) ?_ ?_ ?_; (exact ⟨by omega, by omega, ext_dig hi3 hd⟩); (show _ < _; omega); (simp -dsimp -implicitDefEqProofs (maxSteps := 1000000) (disch := first | omega | (simp only [LN, hw, hw2]; omega)) only [go_sem, Int.reduceToNat, Int.reducePow, Nat.reducePow, Int.reduceAdd, Int.reduceMul, Int.reduceSub, Int.reduceNeg, Nat.reduceAdd, Nat.reduceMul, Nat.reduceSub, Nat.reduceEqDiff, Nat.reduceLT, Nat.reduceLeDiff, hw, hw2]; try trivial)))
      | (have e : kN l = i := pre_is 11 l i hi3 hi2 hi1 (by first | exact .inl (by omega) | exact .inr (.inl (by omega)) | exact .inr (.inr fun h => by unfold Dig at h; omega))
         try rw [show valA 0 l = valA 0 (l.take i) by rw [List.take_of_length_le (by omega)]]
         first
           | exact kEnd e (ok_2 e (by omega) (by omega))
           | (obtain rfl : i = 0 := by omega
              exact (kEnd e (ok_0 e)).2)
           | (obtain rfl : i = 0 := by omega
              exact kEnd e (ok_0 e))
           | (obtain rfl : i = 1 := by omega
              exact kEnd e (ok_1 e)))
      | trace_state
end Go.Proofs.YtkmobahedfdikaaDoor
