/- Contracts of functions of this program, and the plain facts that they rest on. No conditions. -/
import Derived.Test.YtpcjeaaplidmaaaDoorHiEQ
import Derived.Test.YtpcjeaaplidmaaaDoorSpBQ
import Derived.Test.YtpcjeaaplidmaaaDoorBldQ
import Derived.Test.YtpcjeaaplidmaaaDoorFuQ
import Derived.Test.YtpcjeaaplidmaaaDoorAc4
import Derived.Lib.ItoaLen
set_option linter.unusedSimpArgs false
set_option linter.unusedVariables false
namespace Go.Proofs.YtpcjeaaplidmaaaDoor
open Go Go.Ab
attribute [local irreducible] callK callF loopQ vstep vskip pickE hideP
open Go.RowKit
set_option maxRecDepth 100000
abbrev bs (l : List UInt8) : ByteArray := ⟨l.toArray⟩
theorem bs_size (l : List UInt8) : (ByteArray.mk l.toArray).size = l.length := by simp [ByteArray.size]
theorem bs_list (l : List UInt8) : (ByteArray.mk l.toArray).data.toList = l := rfl
theorem toList_bs (l : List UInt8) : (ByteArray.mk l.toArray).toList = l := by rw [Lib.toList_data]
theorem app_bs (a b : List UInt8) : ByteArray.mk a.toArray ++ ByteArray.mk b.toArray = ByteArray.mk (a ++ b).toArray := by
 apply ByteArray.ext; simp
theorem beq_dec (a b : List UInt8) : (a == b) = decide (a = b) := by by_cases h : a = b <;> simp [h]
theorem imax : IntKind.i64.max = 9223372036854775807 := rfl
attribute [go_sem] toList_bs beq_dec bs_size bs_list app_bs imax
theorem below_grow (w : World) (k : Nat) (os : Array Obj) : Below w.heap.size w (Go.Sort.grow (w.drewN k) os) := by
 have e : (w.drewN k).heap = w.heap := by simp
 refine ⟨rfl, rfl, rfl, by simp [Go.Sort.grow, e], fun j hj => ?_⟩
 simp only [Go.Sort.grow, e]
 exact Array.getElem?_append_left hj
def numL (n : Int) : List UInt8 := Lib.decDigits n.toNat
theorem numL_len {n : Int} (h : 0 ≤ n ∧ n ≤ 18446744073709551615) : (numL n).length ≤ 20 ∧ 1 ≤ (numL n).length := by
 unfold numL
 rw [Lib.decDigits_length]
 refine ⟨Lib.nDigits_le20 n.toNat (by omega), ?_⟩
 rw [Lib.nDigits]; split <;> omega
theorem c48 (n : Int) (h : 0 ≤ n ∧ n ≤ 18446744073709551615) : PCalls Tryd.prog 48 [.v (.int .u64 n), .v (.int .i64 10)] (.v (.string (bs (numL n)))) := by
 refine pcalls_val ⟨_, rfl, rfl, by decide⟩ (u := .string (bs (numL n))) (fun Z w => by simp [Rep, oneB]) fun Z w vals hz hv => ?_
 have e : vals = [.int .u64 n, .int .i64 10] := by
  simp only [Reps, Rep] at hv
  obtain ⟨_, _, rfl, ⟨rfl, _⟩, _, _, rfl, ⟨rfl, _⟩, rfl⟩ := hv
  rfl
 subst e
 have := Tryd.strconv_FormatUint_10 n.toNat (by omega) w hz.gl.2
 rw [show ((n.toNat : Nat) : Int) = n by omega] at this
 exact this.mono fun e w' ⟨he, k, os, hw⟩ => ⟨he, by rw [hw]; exact below_grow w k os⟩
theorem d64 (b s : List UInt8) (n : Nat) (hn : n = b.length) (h0 : n + s.length ≠ 0) (hlen : n + s.length ≤ 1000000000) :
  ACalls Tryd.prog 64 [.loc 0 0, .p (.v (.string (bs s)))] [.bld 135 (.sl 1 1 0 n), .byt 5 b] (.p (.tup [.v (.int .i64 s.length), .v .nilIface])) [.bld 135 (.sl 2 1 0 (b ++ s).length), .dead, .byt 5 (b ++ s)] := by
 subst hn
 have := ac_writeStringE (P := Tryd.prog) (f := 64) ⟨_, rfl, rfl, by decide⟩ (fun b p v b2 s w hp h hl => Tryd.b_writeString b p v b2 s w hp h hl) b (bs s) (by rw [bs_size]; exact h0) (by rw [bs_size]; omega)
 rw [bs_size] at this; exact this
theorem d65 (b : List UInt8) (n : Nat) (hn : n = b.length) (h0 : n ≠ 0) :
  ACalls Tryd.prog 65 [.loc 0 0] [.bld 135 (.sl 1 1 0 n), .byt 5 b] (.p (.v (.string (bs b)))) [.bld 135 (.sl 2 1 0 b.length), .dead, .byt 5 b] := by
 subst hn
 exact ac_string (P := Tryd.prog) (f := 65) ⟨_, rfl, rfl, by decide⟩ (fun b p v l w h hl => b_string Tryd.lays169 Tryd.Builder_Extra_169 b p v l w h hl) b h0
theorem d65e : ACalls Tryd.prog 65 [.loc 0 0] [.bld 135 (.p (.v (.slice none 0 0)))] (.p (.v (.string ⟨#[]⟩))) [.bld 135 (.p (.v (.slice none 0 0)))] :=
 ac_string0 (P := Tryd.prog) (f := 65) ⟨_, rfl, rfl, by decide⟩ (fun b p w h => b_string0 Tryd.lays169 Tryd.Builder_Extra_169 b p w h)
abbrev LP := List (Int × Int)
def U64 (x : Int) : Prop := 0 ≤ x ∧ x ≤ 18446744073709551615
def RngP (l : LP) : Prop := ∀ i, i < l.length → U64 (l.getD i default).1 ∧ U64 (l.getD i default).2
def ptT (l : LP) : Nat → List UInt8
 | 0 => []
 | i + 1 => ptT l i ++ (numL (l.getD i default).1 ++ ([32] ++ (numL (l.getD i default).2 ++ [44])))
theorem ptT_0 (l : LP) : ptT l 0 = [] := rfl
theorem ptT_s (l : LP) (i : Nat) : ptT l (i + 1) = ptT l i ++ (numL (l.getD i default).1 ++ ([32] ++ (numL (l.getD i default).2 ++ [44]))) := rfl
def textP (l : LP) : List UInt8 := ptT l l.length
theorem ptT_len {l : LP} (h : RngP l) : ∀ i, i ≤ l.length → (ptT l i).length ≤ 42 * i ∧ (0 < i → 1 ≤ (ptT l i).length)
 | 0, _ => ⟨by simp [ptT], fun h => absurd h (by omega)⟩
 | i + 1, hi => by
  have h1 := ptT_len h i (by omega)
  have h2 := h i (by omega)
  have h3 := numL_len h2.1
  have h4 := numL_len h2.2
  rw [ptT_s]; simp only [List.length_append, List.length_cons, List.length_nil]; omega
attribute [local irreducible] ptT numL
set_option maxRecDepth 100000 in
set_option maxHeartbeats 4000000 in
theorem c49z  : PCalls Tryd.prog 49 [.view 2 (([] : LP).map Sp.eP)] (.v (.string ⟨#[]⟩)) := by
 refine pcalls_facts ⟨_, rfl, rfl, by decide⟩ fun hf => ?_
 simp only [go_sem, big] at hf
 refine pcalls_of (E := E) (fn := Tryd.f49) 24 [.tmp 2] rfl rfl rfl rfl (by decide) rfl ?_
 repeat' (first
  | (with_reducible first | refine r_seq ?_ | refine r_block ?_ | refine fork_not ?_ | refine fork_and ?_ | refine fork_or ?_ | refine chk_ok (by kernel_rfl) ?_)
  | ((with_reducible first | refine fork_dec ?_ ?_ | refine fork_eq ?_ ?_ | refine fork_ne ?_ ?_ | refine fork_intro ?_ ?_) <;> intro h)
  | ((with_reducible show False); omega)
  | ((first | (with_reducible first | refine r_exit ?_ | refine r_skip ?_ | refine r_cond ?_ | refine r_region ?_ | refine r_ret ?_ | show VX _ _ _ _ _ _ _ | show vstep _ _ _ _ _ | show vskip _ _ _ | show withV _ _) | ((with_reducible show endA _ _ _ _ _ _ _); simp -implicitDefEqProofs only [endA]) | (with_reducible first | refine pick_viewG default (by first | omega | (simp only [LN]; omega)) (by first | omega | (simp only [LN]; omega)) ?_ | refine pick_own default (by first | omega | (simp only [LN]; omega)) ?_ | refine And.intro (by first | decide | omega | assumption | (simp only [LN]; omega)) ?_) | ((with_reducible show pickE _ _ _); first | refine pickE_intro _ ⟨by omega, by rfl⟩ ?_ | refine pickE_intro _ (by rfl) ?_) | fail); try simp -dsimp -implicitDefEqProofs (maxSteps := 1000000) (disch := first | omega | (simp only [LN]; omega)) only [go_sem])
  | fail)
 refine r_loopA (α := Nat) [3, 6, 7] (fun i b => [(8, aI i)]) (fun i b => []) (fun i => []) (fun i => i ≤ 0) (fun i => 1 - i) (0) ?h0_1 ?hs0_1 ?I_1 ?hI_1 ?round_1
 case hI_1 => intro x; (simp -dsimp -implicitDefEqProofs (maxSteps := 1000000) (disch := first | omega | (simp only [LN]; omega)) only [go_sem]) <;> exact rfl
 case hs0_1 => refine wk_auto ?_; (simp -dsimp -implicitDefEqProofs (maxSteps := 1000000) (disch := first | omega | (simp only [LN]; omega)) only [go_sem]) <;> (try omega)
 case h0_1 => omega
 case round_1 =>
  intro i hi
  repeat' (first
   | (with_reducible first | refine r_seq ?_ | refine r_block ?_ | refine fork_not ?_ | refine fork_and ?_ | refine fork_or ?_ | refine chk_ok (by kernel_rfl) ?_)
   | ((with_reducible first | refine fork_dec ?_ ?_ | refine fork_eq ?_ ?_ | refine fork_ne ?_ ?_ | refine fork_intro ?_ ?_) <;> intro h <;> try (exfalso; first | omega | exact h rfl | (revert h; decide) | (cases h; done)))
   | ((with_reducible show False); omega)
   | ((first | (with_reducible first | refine r_exit ?_ | refine r_skip ?_ | refine r_cond ?_ | refine r_region ?_ | refine r_ret ?_ | show VX _ _ _ _ _ _ _ | show vstep _ _ _ _ _ | show vskip _ _ _ | show withV _ _) | ((with_reducible show endA _ _ _ _ _ _ _); simp -implicitDefEqProofs only [endA]) | (with_reducible first | refine pick_viewG default (by first | omega | (simp only [LN]; omega)) (by first | omega | (simp only [LN]; omega)) ?_ | refine pick_own default (by first | omega | (simp only [LN]; omega)) ?_ | refine And.intro (by first | decide | omega | assumption | (simp only [LN]; omega)) ?_) | (with_reducible first | apply callK_lent | apply callF_lent | apply hideP_own) | ((with_reducible apply callA_go); (first | exact d65e | fail)) | ((with_reducible show pickE _ _ _); first | refine pickE_intro _ ⟨by omega, by rfl⟩ ?_ | refine pickE_intro _ (by rfl) ?_) | fail); try simp -dsimp -implicitDefEqProofs (maxSteps := 1000000) (disch := first | omega | (simp only [LN]; omega)) only [go_sem])
   | fail)
  all_goals first | omega | rfl
set_option maxRecDepth 100000 in
set_option maxHeartbeats 4000000 in
theorem c49n (l : LP) (h0 : 0 < l.length ∧ l.length ≤ 100000) (hr : RngP l) : PCalls Tryd.prog 49 [.view 2 (l.map Sp.eP)] (.v (.string (bs (textP l)))) := by
 refine pcalls_facts ⟨_, rfl, rfl, by decide⟩ fun hf => ?_
 simp only [go_sem, big] at hf
 refine pcalls_of (E := E) (fn := Tryd.f49) 24 [.tmp 2] rfl rfl rfl rfl (by decide) rfl ?_
 repeat' (first
  | (with_reducible first | refine r_seq ?_ | refine r_block ?_ | refine fork_not ?_ | refine fork_and ?_ | refine fork_or ?_ | refine chk_ok (by kernel_rfl) ?_)
  | ((with_reducible first | refine fork_dec ?_ ?_ | refine fork_eq ?_ ?_ | refine fork_ne ?_ ?_ | refine fork_intro ?_ ?_) <;> intro h)
  | ((with_reducible show False); omega)
  | ((first | (with_reducible first | refine r_exit ?_ | refine r_skip ?_ | refine r_cond ?_ | refine r_region ?_ | refine r_ret ?_ | show VX _ _ _ _ _ _ _ | show vstep _ _ _ _ _ | show vskip _ _ _ | show withV _ _) | ((with_reducible show endA _ _ _ _ _ _ _); simp -implicitDefEqProofs only [endA]) | (with_reducible first | refine pick_viewG default (by first | omega | (simp only [LN]; omega)) (by first | omega | (simp only [LN]; omega)) ?_ | refine pick_own default (by first | omega | (simp only [LN]; omega)) ?_ | refine And.intro (by first | decide | omega | assumption | (simp only [LN]; omega)) ?_) | ((with_reducible show pickE _ _ _); first | refine pickE_intro _ ⟨by omega, by rfl⟩ ?_ | refine pickE_intro _ (by rfl) ?_) | fail); try simp -dsimp -implicitDefEqProofs (maxSteps := 1000000) (disch := first | omega | (simp only [LN]; omega)) only [go_sem])
  | fail)
 refine r_loopA (α := Nat) [3, 6, 7] (fun i b => [(8, aI i)]) (fun i b => [(3, .bld 135 (.sl b 1 0 (ptT l i).length))]) (fun i => [.byt 5 (ptT l i)]) (fun i => i ≤ l.length) (fun i => l.length - i) (0) ?h0_2 ?hs0_2 ?I_2 ?hI_2 ?round_2
 case hI_2 => intro x; (simp -dsimp -implicitDefEqProofs (maxSteps := 1000000) (disch := first | omega | (simp only [LN]; omega)) only [go_sem]) <;> exact rfl
 case hs0_2 => refine wk_auto ?_; (simp -dsimp -implicitDefEqProofs (maxSteps := 1000000) (disch := first | omega | (simp only [LN, ptT_0, List.length_nil]; omega)) only [go_sem, ptT_0, List.length_nil]) <;> (try omega)
 case h0_2 => exact Nat.zero_le _
 case round_2 =>
  intro i h1
  have hlen := ptT_len hr i h1
  by_cases hi : i < l.length
  ·have hR := hr i hi
   have h3 := numL_len hR.1
   have h4 := numL_len hR.2
   repeat' (first
    | (with_reducible first | refine r_seq ?_ | refine r_block ?_ | refine fork_not ?_ | refine fork_and ?_ | refine fork_or ?_ | refine chk_ok (by kernel_rfl) ?_)
    | ((with_reducible first | refine fork_dec ?_ ?_ | refine fork_eq ?_ ?_ | refine fork_ne ?_ ?_ | refine fork_intro ?_ ?_) <;> intro h <;> try (exfalso; first | omega | exact h rfl | (revert h; decide) | (cases h; done)))
    | ((with_reducible show False); omega)
    | ((first | (with_reducible first | refine r_exit ?_ | refine r_skip ?_ | refine r_cond ?_ | refine r_region ?_ | refine r_ret ?_ | show VX _ _ _ _ _ _ _ | show vstep _ _ _ _ _ | show vskip _ _ _ | show withV _ _) | ((with_reducible show endA _ _ _ _ _ _ _); simp -implicitDefEqProofs only [endA]) | (with_reducible first | refine pick_viewG default (by first | omega | (simp only [LN]; omega)) (by first | omega | (simp only [LN]; omega)) ?_ | refine pick_own default (by first | omega | (simp only [LN]; omega)) ?_ | refine And.intro (by first | decide | omega | assumption | (simp only [LN]; omega)) ?_) | ((with_reducible apply callK_pure); (first | exact c48 _ hR.1 | exact c48 _ hR.2 | fail)) | ((with_reducible apply callF_lend); (first | exact c48 _ hR.1 | exact c48 _ hR.2 | fail); rfl) | ((with_reducible apply callF_go); (first | exact c48 _ hR.1 | exact c48 _ hR.2 | fail)) | (with_reducible first | apply callK_lent | apply callF_lent | apply hideP_own) | ((with_reducible apply callA_go); (first | exact d64 _ _ _ (by (try simp only [List.length_append, List.length_cons, List.length_nil]) <;> omega) (by (try simp only [List.length_append, List.length_cons, List.length_nil]) <;> omega) (by (try simp only [List.length_append, List.length_cons, List.length_nil]) <;> omega) | fail)) | ((with_reducible show pickE _ _ _); first | refine pickE_intro _ ⟨by omega, by rfl⟩ ?_ | refine pickE_intro _ (by rfl) ?_) | fail); try simp -dsimp -implicitDefEqProofs (maxSteps := 1000000) (disch := first | omega | (simp only [LN]; omega)) only [go_sem])
    | fail)
   (refine loopQ_next (i + 1) ?_ ?_ ?_; (omega); (show _ < _; omega); (simp -dsimp -implicitDefEqProofs (maxSteps := 1000000) (disch := first | omega | (simp only [LN, ptT_s, List.append_nil, List.append_assoc, List.cons_append, List.nil_append, List.length_append, List.length_cons, List.length_nil]; omega)) only [go_sem, ptT_s, List.append_nil, List.append_assoc, List.cons_append, List.nil_append, List.length_append, List.length_cons, List.length_nil]; try trivial))
   all_goals (first | omega)
  ·have hp := hlen.2 (by omega)
   repeat' (first
    | (with_reducible first | refine r_seq ?_ | refine r_block ?_ | refine fork_not ?_ | refine fork_and ?_ | refine fork_or ?_ | refine chk_ok (by kernel_rfl) ?_)
    | ((with_reducible first | refine fork_dec ?_ ?_ | refine fork_eq ?_ ?_ | refine fork_ne ?_ ?_ | refine fork_intro ?_ ?_) <;> intro h <;> try (exfalso; first | omega | exact h rfl | (revert h; decide) | (cases h; done)))
    | ((with_reducible show False); omega)
    | ((first | (with_reducible first | refine r_exit ?_ | refine r_skip ?_ | refine r_cond ?_ | refine r_region ?_ | refine r_ret ?_ | show VX _ _ _ _ _ _ _ | show vstep _ _ _ _ _ | show vskip _ _ _ | show withV _ _) | ((with_reducible show endA _ _ _ _ _ _ _); simp -implicitDefEqProofs only [endA]) | (with_reducible first | refine pick_viewG default (by first | omega | (simp only [LN]; omega)) (by first | omega | (simp only [LN]; omega)) ?_ | refine pick_own default (by first | omega | (simp only [LN]; omega)) ?_ | refine And.intro (by first | decide | omega | assumption | (simp only [LN]; omega)) ?_) | (with_reducible first | apply callK_lent | apply callF_lent | apply hideP_own) | ((with_reducible apply callA_go); (first | exact d65 _ _ (by (try simp only [List.length_append, List.length_cons, List.length_nil]) <;> omega) (by (try simp only [List.length_append, List.length_cons, List.length_nil]) <;> omega) | fail)) | ((with_reducible show pickE _ _ _); first | refine pickE_intro _ ⟨by omega, by rfl⟩ ?_ | refine pickE_intro _ (by rfl) ?_) | fail); try simp -dsimp -implicitDefEqProofs (maxSteps := 1000000) (disch := first | omega | (simp only [LN]; omega)) only [go_sem])
    | fail)
   all_goals (unfold textP; rw [show i = l.length by omega])
theorem c49 (l : LP) (h0 : l.length ≤ 100000) (hr : RngP l) : PCalls Tryd.prog 49 [.view 2 (l.map Sp.eP)] (.v (.string (bs (textP l)))) := by
 by_cases h : l.length = 0
 ·rw [List.length_eq_zero_iff.1 h, show textP ([] : LP) = [] from ptT_0 []]; exact c49z
 ·exact c49n l ⟨by omega, h0⟩ hr
end Go.Proofs.YtpcjeaaplidmaaaDoor