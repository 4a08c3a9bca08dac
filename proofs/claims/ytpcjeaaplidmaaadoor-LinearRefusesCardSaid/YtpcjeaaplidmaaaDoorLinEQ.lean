/- Contracts of functions of this program, and the plain facts that they rest on. No conditions. -/
import Derived.Test.YtpcjeaaplidmaaaDoorLinDQ
import Derived.Test.YtpcjeaaplidmaaaDoorLinWQ
set_option linter.unusedSimpArgs false
set_option linter.unusedVariables false
namespace Go.Proofs.YtpcjeaaplidmaaaDoor
open Go Go.Ab
attribute [local irreducible] callK callF loopQ vstep vskip pickE hideP
open Go.RowKit
set_option maxRecDepth 100000
attribute [local go_sem] Hi.eC Hi.hc Hi.hP sV eM
set_option maxRecDepth 100000 in
set_option maxHeartbeats 4000000 in
theorem a30 (s : Sp.S) (b : Nat) (fin : LP) (hs : OkS s b) (hb : b ≤ 10000) : ACalls Tryd.prog 30 [.p (Sp.eS s), .loc 0 0] [.var [.p (.view 2 (fin.map Sp.eP))]] (.p (.v (.bool (decide (Sp.contM s = fin))))) [.var [.p (.view 2 (fin.map Sp.eP))]] := by
 refine acalls_of (E := E) (fn := Tryd.f30) 8 [.tmp 3] rfl rfl rfl rfl (by decide) rfl rfl ?_
 have h1 := hs.inv.ps
 have h2 := hs.inv.vs
 repeat' (first
  | (with_reducible first | refine r_seq ?_ | refine r_block ?_ | refine fork_not ?_ | refine fork_and ?_ | refine fork_or ?_ | refine chk_ok (by kernel_rfl) ?_)
  | ((with_reducible first | refine fork_dec ?_ ?_ | refine fork_eq ?_ ?_ | refine fork_ne ?_ ?_ | refine fork_intro ?_ ?_) <;> intro h)
  | ((with_reducible show False); omega)
  | ((first | (with_reducible first | refine r_exit ?_ | refine r_skip ?_ | refine r_cond ?_ | refine r_region ?_ | refine r_ret ?_ | show VX _ _ _ _ _ _ _ | show vstep _ _ _ _ _ | show vskip _ _ _ | show withV _ _) | ((with_reducible show endA _ _ _ _ _ _ _); simp -implicitDefEqProofs only [endA]) | (with_reducible first | refine pick_viewG default (by first | omega | (simp only [LN]; omega)) (by first | omega | (simp only [LN]; omega)) ?_ | refine pick_own default (by first | omega | (simp only [LN]; omega)) ?_ | refine And.intro (by first | decide | omega | assumption | (simp only [LN]; omega)) ?_) | ((with_reducible apply callK_pure); (first | exact Sp.c13 s (by omega) (by omega) | exact Sp.c24 (Sp.contM s) fin | fail)) | ((with_reducible apply callF_lend); (first | exact Sp.c13 s (by omega) (by omega) | exact Sp.c24 (Sp.contM s) fin | fail); rfl) | ((with_reducible apply callF_go); (first | exact Sp.c13 s (by omega) (by omega) | exact Sp.c24 (Sp.contM s) fin | fail)) | ((with_reducible show pickE _ _ _); first | refine pickE_intro _ ⟨by omega, by rfl⟩ ?_ | refine pickE_intro _ (by rfl) ?_) | fail); try simp -dsimp -implicitDefEqProofs (maxSteps := 1000000) (disch := first | omega | (simp only [LN]; omega)) only [go_sem])
  | fail)
def eN (n : Nat) : PV := .v (.int .i64 n)
attribute [local go_sem] eN
def seenV (l : List (List UInt8)) : Value → Bool
 | .string b => decide (b.data.toList ∈ l)
 | _ => false
theorem seenV_s (l : List (List UInt8)) (k : List UInt8) : seenV l (.string ⟨k.toArray⟩) = decide (k ∈ l) := rfl
theorem seenV_0 : seenV [] = fun _ => false := by
 funext v; cases v <;> simp [seenV]
theorem seen_upd (l : List (List UInt8)) (k : List UInt8) : updF (seenV l) (.string ⟨k.toArray⟩) true = seenV (k :: l) := by
 funext v
 unfold updF
 by_cases h : v = .string ⟨k.toArray⟩
 ·rw [if_pos h, h, seenV_s]; simp
 ·rw [if_neg h]
  cases v <;> try rfl
  rename_i b
  show decide (b.data.toList ∈ l) = decide (b.data.toList ∈ k :: l)
  refine decide_eq_decide.2 ?_
  rw [List.mem_cons]
  refine ⟨.inr, fun hh => hh.resolve_left fun e => h ?_⟩
  rw [← e]
theorem endN_lt (cl : List Hi.C) (hl : cl.length ≤ 10) : endN cl < 1024 := Nat.lt_of_lt_of_le (mask_lt _ _) (Nat.pow_le_pow_right (show 0 < 2 by decide) hl)
theorem andnot (E u : Nat) (hE : E < 1024) (hu : u < 1024) : IntKind.u64.wrap ((BitVec.ofInt IntKind.u64.bits (E : Int) &&& ~~~BitVec.ofInt IntKind.u64.bits (u : Int)).toNat : Int) = ((E ^^^ (E &&& u) : Nat) : Int) := by
 show IntKind.u64.wrap ((BitVec.ofInt 64 (E : Int) &&& ~~~BitVec.ofInt 64 (u : Int)).toNat : Int) = _
 have h1 : E ^^^ (E &&& u) < 2 ^ 10 := Nat.xor_lt_two_pow (by omega) (Nat.and_lt_two_pow _ (by omega))
 have e : (BitVec.ofInt 64 (E : Int) &&& ~~~BitVec.ofInt 64 (u : Int)).toNat = E ^^^ (E &&& u) := by
  rw [BitVec.ofInt_natCast, BitVec.ofInt_natCast, BitVec.toNat_and, BitVec.toNat_not, BitVec.toNat_ofNat, BitVec.toNat_ofNat, Nat.mod_eq_of_lt (by omega), Nat.mod_eq_of_lt (by omega)]
  apply Nat.eq_of_testBit_eq
  intro i
  rw [Nat.testBit_and, show 2 ^ 64 - 1 - u = 2 ^ 64 - (u + 1) by omega, Nat.testBit_two_pow_sub_succ (by omega), Nat.testBit_xor, Nat.testBit_and]
  by_cases hi : i < 64
  ·rw [decide_eq_true hi]; cases E.testBit i <;> cases u.testBit i <;> rfl
  ·have h2 : E.testBit i = false := Nat.testBit_lt_two_pow (Nat.lt_of_lt_of_le hE (Nat.le_trans (show 1024 ≤ 2 ^ 64 by decide) (Nat.pow_le_pow_right (by decide) (by omega))))
   rw [h2]; simp
 rw [e, bw, Nat.mod_eq_of_lt (by omega)]
theorem andnot_0 (E u : Nat) : (E ^^^ (E &&& u)) = 0 ↔ E &&& u = E := by
 constructor
 ·intro h
  apply Nat.eq_of_testBit_eq
  intro i
  have := congrArg (fun x => x.testBit i) h
  simp only [Nat.testBit_xor, Nat.testBit_and, Nat.zero_testBit] at this ⊢
  revert this
  cases E.testBit i <;> cases u.testBit i <;> simp
 ·intro h; rw [h, Nat.xor_self]
theorem runM_seen {cl : List Hi.C} {fnd : Sp.S → List LP → Bool × List LP} {f : Nat} {s : Sp.S} {used : Nat} {g : G} (h : keyM s used ∈ g.seen) : runM cl fnd (f + 1) s used g = (false, g) := by rw [runM, if_pos h]
theorem runM_go {cl : List Hi.C} {fnd : Sp.S → List LP → Bool × List LP} {f : Nat} {s : Sp.S} {used : Nat} {g : G} (h : ¬ keyM s used ∈ g.seen) : runM cl fnd (f + 1) s used g = if endN cl &&& used = endN cl then
   if (fnd s g.acc).1 = true then (true, ⟨keyM s used :: g.seen, g.es, g.n, (fnd s g.acc).2⟩)
   else goM cl (runM cl fnd f) s used cl.length 0 ⟨keyM s used :: g.seen, g.es, g.n, (fnd s g.acc).2⟩
  else goM cl (runM cl fnd f) s used cl.length 0 ⟨keyM s used :: g.seen, g.es, g.n, g.acc⟩ := by rw [runM, if_neg h]
theorem andI (M u : Nat) (hM : M < 1024) (hu : u < 1024) : IntKind.u64.wrap ((BitVec.ofInt IntKind.u64.bits (M : Int) &&& BitVec.ofInt IntKind.u64.bits (u : Int)).toNat : Int) = ((M &&& u : Nat) : Int) := by
 show IntKind.u64.wrap ((BitVec.ofInt 64 (M : Int) &&& BitVec.ofInt 64 (u : Int)).toNat : Int) = _
 have h1 : M &&& u < 2 ^ 10 := Nat.and_lt_two_pow _ (by omega)
 rw [BitVec.ofInt_natCast, BitVec.ofInt_natCast, BitVec.toNat_and, BitVec.toNat_ofNat, BitVec.toNat_ofNat, Nat.mod_eq_of_lt (by omega), Nat.mod_eq_of_lt (by omega), bw, Nat.mod_eq_of_lt (by omega)]
theorem bitI (u i : Nat) (hu : u < 1024) (hi : i < 10) : IntKind.u64.wrap ((BitVec.ofInt IntKind.u64.bits ((u : Int) / 2 ^ i) &&& BitVec.ofInt IntKind.u64.bits 1).toNat : Int) = ((u / 2 ^ i % 2 : Nat) : Int) := by
 have e : ((u : Int) / 2 ^ i) = ((u / 2 ^ i : Nat) : Int) := by rw [Int.natCast_ediv, Int.natCast_pow]; rfl
 have h1 : u / 2 ^ i ≤ u := Nat.div_le_self _ _
 rw [e]
 show IntKind.u64.wrap ((BitVec.ofInt 64 ((u / 2 ^ i : Nat) : Int) &&& BitVec.ofInt 64 ((1 : Nat) : Int)).toNat : Int) = _
 rw [BitVec.ofInt_natCast, BitVec.ofInt_natCast, BitVec.toNat_and, BitVec.toNat_ofNat, BitVec.toNat_ofNat, Nat.mod_eq_of_lt (by omega), Nat.mod_eq_of_lt (by decide), show (1 : Nat) = 2 ^ 1 - 1 from rfl, Nat.and_two_pow_sub_one_eq_mod, bw, Nat.mod_eq_of_lt (by omega)]
theorem skip_iff {cl : List Hi.C} {used i : Nat} : skipB cl used i = true ↔ used / 2 ^ i % 2 = 1 ∨ maskN (befP cl i) cl.length &&& used ≠ 0 := by
 unfold skipB
 rw [Bool.or_eq_true, decide_eq_true_iff, Nat.testBit_eq_decide_div_mod_eq, decide_eq_true_iff]
theorem befL_at {cl : List Hi.C} {i : Nat} (h : i < cl.length) : (befL cl cl.length 0).getD i default = maskN (befP cl i) cl.length := by
 rw [befL_get h]; unfold befV; rw [if_pos h]
theorem goM_0 {cl : List Hi.C} {rec : Sp.S → Nat → G → Bool × G} {s : Sp.S} {used i : Nat} {g : G} : goM cl rec s used 0 i g = (false, g) := rfl
theorem goM_skip {cl : List Hi.C} {rec : Sp.S → Nat → G → Bool × G} {s : Sp.S} {used m i : Nat} {g : G} (h : skipB cl used i = true) : goM cl rec s used (m + 1) i g = goM cl rec s used m (i + 1) g := by rw [goM, if_pos h]
theorem goM_no {cl : List Hi.C} {rec : Sp.S → Nat → G → Bool × G} {s : Sp.S} {used m i : Nat} {g : G} (h : skipB cl used i = false) (h2 : stepB cl s i = false) : goM cl rec s used (m + 1) i g = goM cl rec s used m (i + 1) g := by rw [goM, if_neg (by rw [h]; decide), if_pos h2]
theorem goM_yes {cl : List Hi.C} {rec : Sp.S → Nat → G → Bool × G} {s : Sp.S} {used m i : Nat} {g : G} (h : skipB cl used i = false) (h2 : stepB cl s i = true) {r : Bool × G} (hr : rec (Sp.applyM s (opC (cl.getD i default))).1 (used ||| 2 ^ i) ⟨g.seen, g.es.take g.n ++ [i], g.n + 1, g.acc⟩ = r) : goM cl rec s used (m + 1) i g = if r.1 = true then (true, r.2) else goM cl rec s used m (i + 1) ⟨r.2.seen, r.2.es, r.2.n - 1, r.2.acc⟩ := by
 rw [goM, if_neg (by rw [h]; decide), if_neg (by rw [h2]; decide), hr]
theorem bit_no {cl : List Hi.C} {used i : Nat} (h : skipB cl used i = false) : used.testBit i = false := by
 unfold skipB at h; rw [Bool.or_eq_false_iff] at h; exact h.1
theorem textP_len {l : LP} (h : RngP l) : (textP l).length ≤ 42 * l.length := (ptT_len h l.length (Nat.le_refl _)).1
attribute [local irreducible] seenV keyM goM runM numL textP befL endN
def RunOk (cl : List Hi.C) (fin : LP) (f : Nat) : Prop := ∀ (s : Sp.S) (used b : Nat) (g : G), OkS s b → b + f ≤ 100 → freeN used cl.length < f → used < 2 ^ cl.length → g.n ≤ g.es.length → g.n + f ≤ 1000 →
 ACalls Tryd.prog 32 [.loc 0 0, .p (Sp.eS s), .p (.v (.int .u64 used))]
  [sV cl (endN cl) 1 2 (.sl 3 1 0 g.n) (.fn 30 [.loc 4 0]), .arr 1 ((befL cl cl.length 0).map eM), .mp none (.b (seenV g.seen)), .arr 1 (g.es.map eN), .var [.p (.view 2 (fin.map Sp.eP))]]
  (.p (.v (.bool (runM cl (fun s a => (decide (Sp.contM s = fin), a)) f s used g).1)))
  [sV cl (endN cl) 1 5 (.sl 6 1 0 (runM cl (fun s a => (decide (Sp.contM s = fin), a)) f s used g).2.n) (.fn 30 [.loc 4 0]), .arr 1 ((befL cl cl.length 0).map eM), .dead, .dead, .var [.p (.view 2 (fin.map Sp.eP))],
    .mp none (.b (seenV (runM cl (fun s a => (decide (Sp.contM s = fin), a)) f s used g).2.seen)), .arr 1 ((runM cl (fun s a => (decide (Sp.contM s = fin), a)) f s used g).2.es.map eN)]
set_option maxRecDepth 100000 in
set_option maxHeartbeats 4000000 in
theorem a32s (cl : List Hi.C) (fin : LP) (f : Nat) (s : Sp.S) (used b : Nat) (g : G) (ih : RunOk cl fin f) (hs : OkS s b) (hb : b + (f + 1) ≤ 100) (hfr : freeN used cl.length < f + 1) (hu : used < 2 ^ cl.length) (hg : g.n ≤ g.es.length) (hg2 : g.n + (f + 1) ≤ 1000) (hl : cl.length ≤ 10) (hro : ∀ i, i < cl.length → RngO (opC (cl.getD i default))) (R : Bool × G) (hR : runM cl (fun s a => (decide (Sp.contM s = fin), a)) (f + 1) s used g = R) : ACalls Tryd.prog 32 [.loc 0 0, .p (Sp.eS s), .p (.v (.int .u64 used))] [sV cl (endN cl) 1 2 (.sl 3 1 0 g.n) (.fn 30 [.loc 4 0]), .arr 1 ((befL cl cl.length 0).map eM), .mp none (.b (seenV g.seen)), .arr 1 (g.es.map eN), .var [.p (.view 2 (fin.map Sp.eP))]] (.p (.v (.bool R.1))) [sV cl (endN cl) 1 5 (.sl 6 1 0 R.2.n) (.fn 30 [.loc 4 0]), .arr 1 ((befL cl cl.length 0).map eM), .dead, .dead, .var [.p (.view 2 (fin.map Sp.eP))], .mp none (.b (seenV R.2.seen)), .arr 1 (R.2.es.map eN)] := by
 refine acalls_of (E := E) (fn := Tryd.f32) 120 [.tmp 6] rfl rfl rfl rfl (by decide) rfl rfl ?_
 have hs1 := hs
 have h1 := hs.inv.ps
 have h2 := hs.inv.vs
 have hs0 := hs.inv.srt
 have hcl := Sp.cont_len hs.inv
 have hrg := cont_rng hs (by omega)
 have hu2 : used < 1024 := Nat.lt_of_lt_of_le hu (Nat.pow_le_pow_right (show 0 < 2 by decide) hl)
 have k48 := c48 (used : Int) (by omega)
 have k49 := c49 (Sp.contM s) (by omega) hrg
 have k13 := Sp.c13 s (by omega) (by omega)
 have k30 := a30 s b fin hs (by omega)
 have hnl := numL_len (n := (used : Int)) (by omega)
 have htl : (textP (Sp.contM s)).length ≤ 42 * (Sp.contM s).length := textP_len hrg
 have hkey : numL (used : Int) ++ (58 :: textP (Sp.contM s)) = keyM s used := by unfold keyM; rfl
 have hand := andnot (endN cl) used (endN_lt cl hl) hu2
 obtain ⟨ek, hek⟩ : ∃ e : Nat, (endN cl ^^^ (endN cl &&& used)) = e := ⟨_, rfl⟩
 have hek2 := andnot_0 (endN cl) used
 rw [hek] at hand hek2
 by_cases h0 : keyM s used ∈ g.seen
 ·rw [runM_seen h0] at hR
  subst hR
  repeat' (first
   | (with_reducible first | refine r_seq ?_ | refine r_block ?_ | refine fork_not ?_ | refine fork_and ?_ | refine fork_or ?_ | refine chk_ok (by kernel_rfl) ?_)
   | ((with_reducible first | refine fork_dec ?_ ?_ | refine fork_eq ?_ ?_ | refine fork_ne ?_ ?_ | refine fork_intro ?_ ?_) <;> intro h <;> try (exfalso; first | omega | exact h rfl | (revert h; decide) | (cases h; done)))
   | ((with_reducible show False); omega)
   | ((first | (with_reducible first | refine r_exit ?_ | refine r_skip ?_ | refine r_cond ?_ | refine r_region ?_ | refine r_ret ?_ | show VX _ _ _ _ _ _ _ | show vstep _ _ _ _ _ | show vskip _ _ _ | show withV _ _) | ((with_reducible show endA _ _ _ _ _ _ _); simp -implicitDefEqProofs only [endA]) | (with_reducible first | refine pick_viewG default (by first | omega | (simp only [LN, hkey, seenV_s, seen_upd, List.append_assoc, List.cons_append, List.nil_append]; omega)) (by first | omega | (simp only [LN, hkey, seenV_s, seen_upd, List.append_assoc, List.cons_append, List.nil_append]; omega)) ?_ | refine pick_own default (by first | omega | (simp only [LN, hkey, seenV_s, seen_upd, List.append_assoc, List.cons_append, List.nil_append]; omega)) ?_ | refine And.intro (by first | decide | omega | assumption | (simp only [LN, hkey, seenV_s, seen_upd, List.append_assoc, List.cons_append, List.nil_append]; omega)) ?_) | ((with_reducible apply callK_pure); (first | exact k48 | exact k49 | exact k13 | fail)) | ((with_reducible apply callF_lend); (first | exact k48 | exact k49 | exact k13 | fail); rfl) | ((with_reducible apply callF_go); (first | exact k48 | exact k49 | exact k13 | fail)) | (with_reducible first | apply callK_lent | apply callF_lent | apply hideP_own) | ((with_reducible apply callA_go); (first | exact k30 | fail)) | ((with_reducible show pickE _ _ _); first | refine pickE_intro _ ⟨by omega, by rfl⟩ ?_ | refine pickE_intro _ (by rfl) ?_) | fail); try simp -dsimp -implicitDefEqProofs (maxSteps := 1000000) (disch := first | omega | (simp only [LN, hkey, seenV_s, seen_upd, List.append_assoc, List.cons_append, List.nil_append]; omega)) only [go_sem, hkey, seenV_s, seen_upd, List.append_assoc, List.cons_append, List.nil_append])
   | fail)
  all_goals first | (exact absurd h0 (by assumption)) | (exact ⟨⟨rfl, rfl, .inl rfl⟩, rfl⟩)
 ·have hloop : ek = 0 ∧ Sp.contM s = fin ∨ ¬ (ek = 0 ∧ Sp.contM s = fin) ∧ goM cl (runM cl (fun s a => (decide (Sp.contM s = fin), a)) f) s used cl.length 0 ⟨keyM s used :: g.seen, g.es, g.n, g.acc⟩ = R := by
   by_cases h1 : ek = 0 ∧ Sp.contM s = fin
   ·exact .inl h1
   ·refine .inr ⟨h1, ?_⟩
    rw [← hR, runM_go h0]
    by_cases h2 : endN cl &&& used = endN cl
    ·rw [if_pos h2, if_neg (by rw [decide_eq_true_iff]; exact fun h => h1 ⟨hek2.2 h2, h⟩)]
    ·rw [if_neg h2]
  rcases hloop with ⟨g1, g2⟩ | ⟨g1, g2⟩
  ·rw [runM_go h0, if_pos (hek2.1 g1), if_pos (decide_eq_true g2)] at hR
   subst hR
   repeat' (first
    | (with_reducible first | refine r_seq ?_ | refine r_block ?_ | refine fork_not ?_ | refine fork_and ?_ | refine fork_or ?_ | refine chk_ok (by kernel_rfl) ?_)
    | ((with_reducible first | refine fork_dec ?_ ?_ | refine fork_eq ?_ ?_ | refine fork_ne ?_ ?_ | refine fork_intro ?_ ?_) <;> intro h <;> try (exfalso; first | omega | exact h rfl | (revert h; decide) | (cases h; done)))
    | ((with_reducible show False); omega)
    | ((first | (with_reducible first | refine r_exit ?_ | refine r_skip ?_ | refine r_cond ?_ | refine r_region ?_ | refine r_ret ?_ | show VX _ _ _ _ _ _ _ | show vstep _ _ _ _ _ | show vskip _ _ _ | show withV _ _) | ((with_reducible show endA _ _ _ _ _ _ _); simp -implicitDefEqProofs only [endA]) | (with_reducible first | refine pick_viewG default (by first | omega | (simp only [LN, hkey, seenV_s, seen_upd, hand, List.append_assoc, List.cons_append, List.nil_append]; omega)) (by first | omega | (simp only [LN, hkey, seenV_s, seen_upd, hand, List.append_assoc, List.cons_append, List.nil_append]; omega)) ?_ | refine pick_own default (by first | omega | (simp only [LN, hkey, seenV_s, seen_upd, hand, List.append_assoc, List.cons_append, List.nil_append]; omega)) ?_ | refine And.intro (by first | decide | omega | assumption | (simp only [LN, hkey, seenV_s, seen_upd, hand, List.append_assoc, List.cons_append, List.nil_append]; omega)) ?_) | ((with_reducible apply callK_pure); (first | exact k48 | exact k49 | exact k13 | fail)) | ((with_reducible apply callF_lend); (first | exact k48 | exact k49 | exact k13 | fail); rfl) | ((with_reducible apply callF_go); (first | exact k48 | exact k49 | exact k13 | fail)) | (with_reducible first | apply callK_lent | apply callF_lent | apply hideP_own) | ((with_reducible apply callA_go); (first | exact k30 | fail)) | ((with_reducible show pickE _ _ _); first | refine pickE_intro _ ⟨by omega, by rfl⟩ ?_ | refine pickE_intro _ (by rfl) ?_) | fail); try simp -dsimp -implicitDefEqProofs (maxSteps := 1000000) (disch := first | omega | (simp only [LN, hkey, seenV_s, seen_upd, hand, List.append_assoc, List.cons_append, List.nil_append]; omega)) only [go_sem, hkey, seenV_s, seen_upd, hand, List.append_assoc, List.cons_append, List.nil_append])
    | fail)
   all_goals first | (exact ⟨⟨rfl, rfl, .inl rfl⟩, rfl⟩) | (exact absurd g2 (by assumption)) | (exact absurd (by assumption) h0) | omega
  ·repeat' (first
    | (with_reducible first | refine r_seq ?_ | refine r_block ?_ | refine fork_not ?_ | refine fork_and ?_ | refine fork_or ?_ | refine chk_ok (by kernel_rfl) ?_)
    | ((with_reducible first | refine fork_dec ?_ ?_ | refine fork_eq ?_ ?_ | refine fork_ne ?_ ?_ | refine fork_intro ?_ ?_) <;> intro h <;> try (exfalso; first | omega | exact h rfl | (revert h; decide) | (cases h; done)))
    | ((with_reducible show False); omega)
    | ((first | (with_reducible first | refine r_exit ?_ | refine r_skip ?_ | refine r_cond ?_ | refine r_region ?_ | refine r_ret ?_ | show VX _ _ _ _ _ _ _ | show vstep _ _ _ _ _ | show vskip _ _ _ | show withV _ _) | ((with_reducible show endA _ _ _ _ _ _ _); simp -implicitDefEqProofs only [endA]) | (with_reducible first | refine pick_viewG default (by first | omega | (simp only [LN, hkey, seenV_s, seen_upd, hand, List.append_assoc, List.cons_append, List.nil_append]; omega)) (by first | omega | (simp only [LN, hkey, seenV_s, seen_upd, hand, List.append_assoc, List.cons_append, List.nil_append]; omega)) ?_ | refine pick_own default (by first | omega | (simp only [LN, hkey, seenV_s, seen_upd, hand, List.append_assoc, List.cons_append, List.nil_append]; omega)) ?_ | refine And.intro (by first | decide | omega | assumption | (simp only [LN, hkey, seenV_s, seen_upd, hand, List.append_assoc, List.cons_append, List.nil_append]; omega)) ?_) | ((with_reducible apply callK_pure); (first | exact k48 | exact k49 | exact k13 | fail)) | ((with_reducible apply callF_lend); (first | exact k48 | exact k49 | exact k13 | fail); rfl) | ((with_reducible apply callF_go); (first | exact k48 | exact k49 | exact k13 | fail)) | (with_reducible first | apply callK_lent | apply callF_lent | apply hideP_own) | ((with_reducible apply callA_go); (first | exact k30 | fail)) | ((with_reducible show pickE _ _ _); first | refine pickE_intro _ ⟨by omega, by rfl⟩ ?_ | refine pickE_intro _ (by rfl) ?_) | fail); try simp -dsimp -implicitDefEqProofs (maxSteps := 1000000) (disch := first | omega | (simp only [LN, hkey, seenV_s, seen_upd, hand, List.append_assoc, List.cons_append, List.nil_append]; omega)) only [go_sem, hkey, seenV_s, seen_upd, hand, List.append_assoc, List.cons_append, List.nil_append])
    | fail)
   all_goals first | (exfalso; exact g1 ⟨by omega, by assumption⟩) | (exact absurd (by assumption) h0) | skip
   all_goals
    refine r_loopB (α := Nat × G) [0, 2, 4, 48, 49] (fun q b => [(50, aI q.1)]) (fun q b => [(0, sV cl (endN cl) 1 b (.sl (b + 1) 1 0 q.2.n) (.fn 30 [.loc 4 0])), (1002, .dead), (1003, .dead)]) (fun q => [.mp none (.b (seenV q.2.seen)), .arr 1 (q.2.es.map eN)]) (fun q => q.1 ≤ cl.length ∧ goM cl (runM cl (fun s a => (decide (Sp.contM s = fin), a)) f) s used (cl.length - q.1) q.1 q.2 = R ∧ q.2.n = g.n ∧ q.2.n ≤ q.2.es.length) (fun q => cl.length - q.1) ((0, ⟨keyM s used :: g.seen, g.es, g.n, g.acc⟩)) ?h0_1 ?hs0_1 ?I_1 ?hI_1 ?round_1
    case hI_1 => intro x; (simp -dsimp -implicitDefEqProofs (maxSteps := 1000000) (disch := first | omega | (simp only [LN]; omega)) only [go_sem]) <;> exact rfl
    case hs0_1 => refine wk_auto ?_; (simp -dsimp -implicitDefEqProofs (maxSteps := 1000000) (disch := first | omega | (simp only [LN]; omega)) only [go_sem]) <;> (try omega)
    case h0_1 => exact ⟨Nat.zero_le _, g2, rfl, hg⟩
    case round_1 =>
     rintro ⟨i, q⟩ ⟨q1, q2, q3, q4⟩
     dsimp only at q1 q2 q3 q4
     by_cases hi : i < cl.length
     ·obtain ⟨m, hm, hm2⟩ : ∃ m, cl.length - i = m + 1 ∧ cl.length - (i + 1) = m := ⟨cl.length - (i + 1), by omega, rfl⟩
      rw [hm] at q2
      have hbl := befL_len cl cl.length 0
      have hbg := befL_at (cl := cl) hi
      have hbit := bitI used i hu2 (by omega)
      have hbnd := mask_lt (befP cl i) cl.length
      have hba := andI (maskN (befP cl i) cl.length) used (Nat.lt_of_lt_of_le hbnd (Nat.pow_le_pow_right (show 0 < 2 by decide) hl)) hu2
      have hor := or1 used i hu2 (by omega)
      have hsk := skip_iff (cl := cl) (used := used) (i := i)
      generalize maskN (befP cl i) cl.length &&& used = Bf at *
      generalize used / 2 ^ i % 2 = A at *
      cases hs : skipB cl used i with
      | true =>
       rw [goM_skip hs] at q2
       have hsk := hsk.1 hs
       repeat' (first
        | (with_reducible first | refine r_seq ?_ | refine r_block ?_ | refine fork_not ?_ | refine fork_and ?_ | refine fork_or ?_ | refine chk_ok (by kernel_rfl) ?_)
        | ((with_reducible first | refine fork_dec ?_ ?_ | refine fork_eq ?_ ?_ | refine fork_ne ?_ ?_ | refine fork_intro ?_ ?_) <;> intro h <;> try (exfalso; first | omega | exact h rfl | (revert h; decide) | (cases h; done)))
        | ((with_reducible show False); omega)
        | ((first | (with_reducible first | refine r_exit ?_ | refine r_skip ?_ | refine r_cond ?_ | refine r_region ?_ | refine r_ret ?_ | show VX _ _ _ _ _ _ _ | show vstep _ _ _ _ _ | show vskip _ _ _ | show withV _ _) | ((with_reducible show endA _ _ _ _ _ _ _); simp -implicitDefEqProofs only [endA]) | (with_reducible first | refine pick_viewG default (by first | omega | (simp only [LN, hbl, hbg, hbit, hba]; omega)) (by first | omega | (simp only [LN, hbl, hbg, hbit, hba]; omega)) ?_ | refine pick_own default (by first | omega | (simp only [LN, hbl, hbg, hbit, hba]; omega)) ?_ | refine And.intro (by first | decide | omega | assumption | (simp only [LN, hbl, hbg, hbit, hba]; omega)) ?_) | ((with_reducible show pickE _ _ _); first | refine pickE_intro _ ⟨by omega, by rfl⟩ ?_ | refine pickE_intro _ (by rfl) ?_) | fail); try simp -dsimp -implicitDefEqProofs (maxSteps := 1000000) (disch := first | omega | (simp only [LN, hbl, hbg, hbit, hba]; omega)) only [go_sem, hbl, hbg, hbit, hba])
        | fail)
       all_goals first
        | omega
        | (refine loopQ_next (i + 1, q) ⟨by dsimp only; omega, by dsimp only; rw [hm2]; exact q2, q3, q4⟩ (by dsimp only; omega) ?_; simp -dsimp -implicitDefEqProofs (maxSteps := 1000000) (disch := first | omega | (simp only [LN]; omega)) only [go_sem]; try trivial)
      | false =>
       have hsk : ¬ (A = 1 ∨ Bf ≠ 0) := fun h => by rw [hsk.2 h] at hs; cases hs
       have k12 : PCalls Tryd.prog 12 [Sp.eS s, Sp.eO (opC (cl.getD i default))] _ := Sp.c12 s (opC (cl.getD i default)) (Sp.sorted_pl.2 hs0) (by omega) (by omega)
       obtain ⟨T, hT⟩ : ∃ T, Sp.applyM s (opC (cl.getD i default)) = T := ⟨_, rfl⟩
       have hok := ok_apply hs1 (hro i hi)
       have hstep : stepB cl s i = decide (0 ≤ (cl.getD i default).en → eqR T.2 (resC (cl.getD i default))) := by unfold stepB; rw [hT]
       have hul : used ||| 2 ^ i < 2 ^ cl.length := Nat.or_lt_two_pow hu (Nat.pow_lt_pow_right (by decide) hi)
       have hlen : (q.es.take q.n ++ [i]).length = q.n + 1 := by rw [List.length_append, List.length_take]; simp; omega
       have kih := ih T.1 (used ||| 2 ^ i) (b + 1) ⟨q.seen, q.es.take q.n ++ [i], q.n + 1, q.acc⟩ (hT ▸ hok) (by omega) (by have := free_or used i (bit_no hs) cl.length hi; omega) hul (by dsimp only; omega) (by dsimp only; omega)
       have hrn := run_n cl (fun s a => (decide (Sp.contM s = fin), a)) f T.1 (used ||| 2 ^ i) ⟨q.seen, q.es.take q.n ++ [i], q.n + 1, q.acc⟩ (by dsimp only; omega)
       rw [hT] at k12
       obtain ⟨r, hr⟩ : ∃ r, runM cl (fun s a => (decide (Sp.contM s = fin), a)) f T.1 (used ||| 2 ^ i) ⟨q.seen, q.es.take q.n ++ [i], q.n + 1, q.acc⟩ = r := ⟨_, rfl⟩
       rw [hr] at kih hrn
       dsimp only at kih
       rw [List.map_append] at kih
       obtain ⟨rn1, rn2, rn3, rn4⟩ := hrn
       dsimp only at rn2 rn3 rn4
       by_cases hst : 0 ≤ (cl.getD i default).en → eqR T.2 (resC (cl.getD i default))
       ·rw [decide_eq_true hst] at hstep
        unfold eqR resC at hst
        rw [goM_yes (r := r) hs hstep (by rw [hT]; exact hr)] at q2
        obtain ⟨rb, rg⟩ := r
        cases rb with
        | true =>
         rw [if_pos rfl] at q2
         subst q2
         repeat' (first
          | (with_reducible first | refine r_seq ?_ | refine r_block ?_ | refine fork_not ?_ | refine fork_and ?_ | refine fork_or ?_ | refine chk_ok (by kernel_rfl) ?_)
          | ((with_reducible first | refine fork_dec ?_ ?_ | refine fork_eq ?_ ?_ | refine fork_ne ?_ ?_ | refine fork_intro ?_ ?_) <;> intro h <;> try (exfalso; first | omega | exact h rfl | (revert h; decide) | (cases h; done)))
          | ((with_reducible show False); omega)
          | ((first | (with_reducible first | refine r_exit ?_ | refine r_skip ?_ | refine r_cond ?_ | refine r_region ?_ | refine r_ret ?_ | show VX _ _ _ _ _ _ _ | show vstep _ _ _ _ _ | show vskip _ _ _ | show withV _ _) | ((with_reducible show endA _ _ _ _ _ _ _); simp -implicitDefEqProofs only [endA]) | (with_reducible first | refine pick_viewG default (by first | omega | (simp only [LN, hbl, hbg, hbit, hba, hor]; omega)) (by first | omega | (simp only [LN, hbl, hbg, hbit, hba, hor]; omega)) ?_ | refine pick_own default (by first | omega | (simp only [LN, hbl, hbg, hbit, hba, hor]; omega)) ?_ | refine And.intro (by first | decide | omega | assumption | (simp only [LN, hbl, hbg, hbit, hba, hor]; omega)) ?_) | ((with_reducible apply callK_pure); (exact k12)) | ((with_reducible apply callF_lend); (exact k12); rfl) | ((with_reducible apply callF_go); (exact k12)) | (with_reducible first | apply callK_lent | apply callF_lent | apply hideP_own) | ((with_reducible apply callA_go); (first | exact kih | fail)) | ((with_reducible show pickE _ _ _); first | refine pickE_intro _ ⟨by omega, by rfl⟩ ?_ | refine pickE_intro _ (by rfl) ?_) | fail); try simp -dsimp -implicitDefEqProofs (maxSteps := 1000000) (disch := first | omega | (simp only [LN, hbl, hbg, hbit, hba, hor]; omega)) only [go_sem, hbl, hbg, hbit, hba, hor])
          | fail)
         all_goals first
          | omega
          | (exfalso; have h9 := hst (by assumption); dsimp only at h9; first | exact absurd h9.1 (by assumption) | exact absurd h9.2.1 (by assumption) | exact absurd h9.2.2 (by assumption))
          | (exact ⟨⟨rfl, rfl, .inl rfl⟩, rfl⟩)
        | false =>
         rw [if_neg (show ¬ (false, rg).1 = true from Bool.false_ne_true)] at q2
         dsimp only at q2
         have rn4 : rg.n = q.n + 1 := rn4 rfl
         have rn1 : rg.n ≤ rg.es.length := rn1
         repeat' (first
          | (with_reducible first | refine r_seq ?_ | refine r_block ?_ | refine fork_not ?_ | refine fork_and ?_ | refine fork_or ?_ | refine chk_ok (by kernel_rfl) ?_)
          | ((with_reducible first | refine fork_dec ?_ ?_ | refine fork_eq ?_ ?_ | refine fork_ne ?_ ?_ | refine fork_intro ?_ ?_) <;> intro h <;> try (exfalso; first | omega | exact h rfl | (revert h; decide) | (cases h; done)))
          | ((with_reducible show False); omega)
          | ((first | (with_reducible first | refine r_exit ?_ | refine r_skip ?_ | refine r_cond ?_ | refine r_region ?_ | refine r_ret ?_ | show VX _ _ _ _ _ _ _ | show vstep _ _ _ _ _ | show vskip _ _ _ | show withV _ _) | ((with_reducible show endA _ _ _ _ _ _ _); simp -implicitDefEqProofs only [endA]) | (with_reducible first | refine pick_viewG default (by first | omega | (simp only [LN, hbl, hbg, hbit, hba, hor]; omega)) (by first | omega | (simp only [LN, hbl, hbg, hbit, hba, hor]; omega)) ?_ | refine pick_own default (by first | omega | (simp only [LN, hbl, hbg, hbit, hba, hor]; omega)) ?_ | refine And.intro (by first | decide | omega | assumption | (simp only [LN, hbl, hbg, hbit, hba, hor]; omega)) ?_) | ((with_reducible apply callK_pure); (exact k12)) | ((with_reducible apply callF_lend); (exact k12); rfl) | ((with_reducible apply callF_go); (exact k12)) | (with_reducible first | apply callK_lent | apply callF_lent | apply hideP_own) | ((with_reducible apply callA_go); (first | exact kih | fail)) | ((with_reducible show pickE _ _ _); first | refine pickE_intro _ ⟨by omega, by rfl⟩ ?_ | refine pickE_intro _ (by rfl) ?_) | fail); try simp -dsimp -implicitDefEqProofs (maxSteps := 1000000) (disch := first | omega | (simp only [LN, hbl, hbg, hbit, hba, hor]; omega)) only [go_sem, hbl, hbg, hbit, hba, hor])
          | fail)
         all_goals first
          | omega
          | (exfalso; have h9 := hst (by assumption); dsimp only at h9; first | exact absurd h9.1 (by assumption) | exact absurd h9.2.1 (by assumption) | exact absurd h9.2.2 (by assumption))
          | (refine loopQ_next (i + 1, ⟨rg.seen, rg.es, rg.n - 1, rg.acc⟩) ⟨by dsimp only; omega, by dsimp only; rw [hm2]; exact q2, by dsimp only; omega, by dsimp only; omega⟩ (by dsimp only; omega) ?_; simp -dsimp -implicitDefEqProofs (maxSteps := 1000000) (disch := first | omega | (simp only [LN]; omega)) only [go_sem]; try trivial)
       ·rw [decide_eq_false hst] at hstep
        rw [goM_no hs hstep] at q2
        unfold eqR resC at hst
        repeat' (first
         | (with_reducible first | refine r_seq ?_ | refine r_block ?_ | refine fork_not ?_ | refine fork_and ?_ | refine fork_or ?_ | refine chk_ok (by kernel_rfl) ?_)
         | ((with_reducible first | refine fork_dec ?_ ?_ | refine fork_eq ?_ ?_ | refine fork_ne ?_ ?_ | refine fork_intro ?_ ?_) <;> intro h <;> try (exfalso; first | omega | exact h rfl | (revert h; decide) | (cases h; done)))
         | ((with_reducible show False); omega)
         | ((first | (with_reducible first | refine r_exit ?_ | refine r_skip ?_ | refine r_cond ?_ | refine r_region ?_ | refine r_ret ?_ | show VX _ _ _ _ _ _ _ | show vstep _ _ _ _ _ | show vskip _ _ _ | show withV _ _) | ((with_reducible show endA _ _ _ _ _ _ _); simp -implicitDefEqProofs only [endA]) | (with_reducible first | refine pick_viewG default (by first | omega | (simp only [LN, hbl, hbg, hbit, hba, hor]; omega)) (by first | omega | (simp only [LN, hbl, hbg, hbit, hba, hor]; omega)) ?_ | refine pick_own default (by first | omega | (simp only [LN, hbl, hbg, hbit, hba, hor]; omega)) ?_ | refine And.intro (by first | decide | omega | assumption | (simp only [LN, hbl, hbg, hbit, hba, hor]; omega)) ?_) | ((with_reducible apply callK_pure); (exact k12)) | ((with_reducible apply callF_lend); (exact k12); rfl) | ((with_reducible apply callF_go); (exact k12)) | (with_reducible first | apply callK_lent | apply callF_lent | apply hideP_own) | ((with_reducible apply callA_go); (first | exact kih | fail)) | ((with_reducible show pickE _ _ _); first | refine pickE_intro _ ⟨by omega, by rfl⟩ ?_ | refine pickE_intro _ (by rfl) ?_) | fail); try simp -dsimp -implicitDefEqProofs (maxSteps := 1000000) (disch := first | omega | (simp only [LN, hbl, hbg, hbit, hba, hor]; omega)) only [go_sem, hbl, hbg, hbit, hba, hor])
         | fail)
        all_goals first
         | omega
         | (refine loopQ_next (i + 1, q) ⟨by dsimp only; omega, by dsimp only; rw [hm2]; exact q2, q3, q4⟩ (by dsimp only; omega) ?_; simp -dsimp -implicitDefEqProofs (maxSteps := 1000000) (disch := first | omega | (simp only [LN]; omega)) only [go_sem]; try trivial)
         | (exfalso; exact hst fun _ => ⟨by assumption, by assumption, by assumption⟩)
         | (exfalso; exact hst fun _ => by omega)
     ·rw [show cl.length - i = 0 by omega, goM_0] at q2
      subst q2
      repeat' (first
       | (with_reducible first | refine r_seq ?_ | refine r_block ?_ | refine fork_not ?_ | refine fork_and ?_ | refine fork_or ?_ | refine chk_ok (by kernel_rfl) ?_)
       | ((with_reducible first | refine fork_dec ?_ ?_ | refine fork_eq ?_ ?_ | refine fork_ne ?_ ?_ | refine fork_intro ?_ ?_) <;> intro h <;> try (exfalso; first | omega | exact h rfl | (revert h; decide) | (cases h; done)))
       | ((with_reducible show False); omega)
       | ((first | (with_reducible first | refine r_exit ?_ | refine r_skip ?_ | refine r_cond ?_ | refine r_region ?_ | refine r_ret ?_ | show VX _ _ _ _ _ _ _ | show vstep _ _ _ _ _ | show vskip _ _ _ | show withV _ _) | ((with_reducible show endA _ _ _ _ _ _ _); simp -implicitDefEqProofs only [endA]) | (with_reducible first | refine pick_viewG default (by first | omega | (simp only [LN]; omega)) (by first | omega | (simp only [LN]; omega)) ?_ | refine pick_own default (by first | omega | (simp only [LN]; omega)) ?_ | refine And.intro (by first | decide | omega | assumption | (simp only [LN]; omega)) ?_) | ((with_reducible show pickE _ _ _); first | refine pickE_intro _ ⟨by omega, by rfl⟩ ?_ | refine pickE_intro _ (by rfl) ?_) | fail); try simp -dsimp -implicitDefEqProofs (maxSteps := 1000000) (disch := first | omega | (simp only [LN]; omega)) only [go_sem])
       | fail)
      all_goals first | (exact ⟨⟨rfl, rfl, .inl rfl⟩, rfl⟩)
theorem run_all (cl : List Hi.C) (fin : LP) (hl : cl.length ≤ 10) (hro : ∀ i, i < cl.length → RngO (opC (cl.getD i default))) : ∀ f, RunOk cl fin f
 | 0 => fun _ _ _ _ _ _ h _ _ _ => absurd h (Nat.not_lt_zero _)
 | f + 1 => fun s used b g hs hb hfr hu hg hg2 => a32s cl fin f s used b g (run_all cl fin hl hro f) hs hb hfr hu hg hg2 hl hro _ rfl
end Go.Proofs.YtpcjeaaplidmaaaDoor