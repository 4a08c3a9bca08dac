/- Contracts of functions of this program, and the plain facts that they rest on. No conditions. -/
import Derived.Test.YtpcjeaaplidmaaaDoorLinRaQ
set_option linter.unusedSimpArgs false
set_option linter.unusedVariables false
namespace Go.Proofs.YtpcjeaaplidmaaaDoor
open Go Go.Ab
attribute [local irreducible] callK callF loopQ vstep vskip pickE hideP
open Go.RowKit
set_option maxRecDepth 100000
theorem acalls_arg {P : Program} {f : FuncId} {args args' : List AV} {L L' : List Ob} {r : AV} (hw : ∀ Z lb w vals, AReps Z lb w args' vals → AReps Z lb w args vals) (h : ACalls P f args L r L') : ACalls P f args' L r L' :=
 ⟨h.1, h.2.1, fun Z lb w vals o hv => h.2.2 Z lb w vals o (hw _ _ _ _ hv)⟩
theorem nil_view {Z : Nat → Prop} {w : World} {u : Value} (sz : Nat) (h0 : 0 < sz) (h : Rep Z w (.v (.slice none 0 0)) u) : Rep Z w (.view sz []) u := by
 simp only [Rep] at h ⊢
 exact ⟨[], none, 0, rfl, h.1, h0, by simp, Nat.zero_le _, rfl, rfl⟩
theorem nil_3 {P : Program} {f : FuncId} {a b r : AV} {L L' : List Ob} (h : ACalls P f [a, b, .p (.view 2 [])] L r L') : ACalls P f [a, b, .p (.v (.slice none 0 0))] L r L' :=
 acalls_arg (fun Z lb w vals hv => by
  simp only [AReps, ARep] at hv ⊢
  obtain ⟨u1, _, rfl, h1, u2, _, rfl, h2, u3, _, rfl, h3, rfl⟩ := hv
  exact ⟨u1, _, rfl, h1, u2, _, rfl, h2, u3, _, rfl, nil_view 2 (by decide) h3, rfl⟩) h
theorem nil_34 {P : Program} {f : FuncId} {a b r : AV} {L L' : List Ob} (h : ACalls P f [a, b, .p (.view 1 []), .p (.view 2 [])] L r L') : ACalls P f [a, b, .p (.v (.slice none 0 0)), .p (.v (.slice none 0 0))] L r L' :=
 acalls_arg (fun Z lb w vals hv => by
  simp only [AReps, ARep] at hv ⊢
  obtain ⟨u1, _, rfl, h1, u2, _, rfl, h2, u3, _, rfl, h3, u4, _, rfl, h4, rfl⟩ := hv
  exact ⟨u1, _, rfl, h1, u2, _, rfl, h2, u3, _, rfl, nil_view 1 (by decide) h3, u4, _, rfl, nil_view 2 (by decide) h4, rfl⟩) h
theorem nil_4 {P : Program} {f : FuncId} {a b c r : AV} {L L' : List Ob} (h : ACalls P f [a, b, .p (.view 1 []), c] L r L') : ACalls P f [a, b, .p (.v (.slice none 0 0)), c] L r L' :=
 acalls_arg (fun Z lb w vals hv => by
  simp only [AReps, ARep] at hv ⊢
  obtain ⟨u1, _, rfl, h1, u2, _, rfl, h2, u3, _, rfl, h3, u4, _, rfl, h4, rfl⟩ := hv
  exact ⟨u1, _, rfl, h1, u2, _, rfl, h2, u3, _, rfl, nil_view 1 (by decide) h3, u4, _, rfl, h4, rfl⟩) h
theorem p_nil_3 {P : Program} {f : FuncId} {a b r : PV} (h : PCalls P f [a, b, .view 2 []] r) : PCalls P f [a, b, .v (.slice none 0 0)] r :=
 ⟨h.callable, fun Z w vals hz hv => h.calls Z w vals hz (by
  simp only [Reps] at hv ⊢
  obtain ⟨u1, _, rfl, h1, u2, _, rfl, h2, u3, _, rfl, h3, rfl⟩ := hv
  exact ⟨u1, _, rfl, h1, u2, _, rfl, h2, u3, _, rfl, nil_view 2 (by decide) h3, rfl⟩)⟩
theorem p_nil_34 {P : Program} {f : FuncId} {a b r : PV} (h : PCalls P f [a, b, .view 1 [], .view 2 []] r) : PCalls P f [a, b, .v (.slice none 0 0), .v (.slice none 0 0)] r :=
 ⟨h.callable, fun Z w vals hz hv => h.calls Z w vals hz (by
  simp only [Reps] at hv ⊢
  obtain ⟨u1, _, rfl, h1, u2, _, rfl, h2, u3, _, rfl, h3, u4, _, rfl, h4, rfl⟩ := hv
  exact ⟨u1, _, rfl, h1, u2, _, rfl, h2, u3, _, rfl, nil_view 1 (by decide) h3, u4, _, rfl, nil_view 2 (by decide) h4, rfl⟩)⟩
def rH : Nat → Hi.H
 | 0 => Hi.h0
 | i + 1 => Hi.retH (Hi.invH (rH i) ((i % 8 : Nat) : Int) 1 0 0 0) i 0 true 0
theorem rH_0 : rH 0 = Hi.h0 := rfl
theorem rH_s (i : Nat) : rH (i + 1) = Hi.retH (Hi.invH (rH i) ((i % 8 : Nat) : Int) 1 0 0 0) i 0 true 0 := rfl
theorem rH_f : ∀ i, i < 14 → (rH i).b (i % 8) = false ∧ (rH i).cl.length = i ∧ (rH i).ev.length = 2 * i ∧ (Hi.invH (rH i) ((i % 8 : Nat) : Int) 1 0 0 0).cl.length = i + 1 ∧ (Hi.invH (rH i) ((i % 8 : Nat) : Int) 1 0 0 0).ev.length = 2 * i + 1 ∧
  ((Hi.invH (rH i) ((i % 8 : Nat) : Int) 1 0 0 0).cl.getD i default).en < 0 ∧ ((Hi.invH (rH i) ((i % 8 : Nat) : Int) 1 0 0 0).cl.getD i default).era = (Hi.invH (rH i) ((i % 8 : Nat) : Int) 1 0 0 0).era ∧
  0 ≤ ((Hi.invH (rH i) ((i % 8 : Nat) : Int) 1 0 0 0).cl.getD i default).th ∧ ((Hi.invH (rH i) ((i % 8 : Nat) : Int) 1 0 0 0).cl.getD i default).th < 8 := by decide +kernel
theorem rH_e : ∀ n, n < 15 → (rH n).cl.length = n ∧ (rH n).ev.length = 2 * n ∧ examE 1 (rH n).cl = 0 ∧ (∀ i, i < n → ((rH n).cl.getD i default).key = 0 ∧ ((rH n).cl.getD i default).val = 0 ∧ ((rH n).cl.getD i default).old = 0) := by decide +kernel
def upT (n : Nat) : List Int := (List.range n).map fun (i : Nat) => (i : Int)
theorem upT_0 : upT 0 = [] := rfl
theorem upT_s (n : Nat) : upT (n + 1) = upT n ++ [(n : Int)] := by unfold upT; rw [List.range_succ, List.map_append]; rfl
theorem upT_len (n : Nat) : (upT n).length = n := by simp [upT]
theorem rH_v : ∀ n, n < 15 → verM 1 (rH n).cl (upT n) [(0, 0)] = 0 := by decide +kernel
theorem rH_c {n : Nat} (h : n ≤ 10) : (checkR 1 (rH n).cl [(0, 0)]).1 = true := by
 obtain ⟨h1, h2, h3, h4⟩ := rH_e n (by omega)
 exact found (o := upT n) (by omega) (fun i hi => by
  obtain ⟨a1, a2, a3⟩ := h4 i (by omega)
  unfold RngO U64 opC
  dsimp only
  rw [a1, a2, a3]; decide) (rH_v n (by omega))
theorem bad_13 {k : Int} {c : Hi.C} (hk : 1 ≤ k ∧ k ≤ 4) (hc : 1 ≤ c.k ∧ c.k ≤ 9) (h : knowsM k c.k = false) : badC k c := by
 have e : Sp.newK k = k := by unfold Sp.newK; rw [if_neg (by omega)]
 unfold badC ini
 rw [e]
 unfold Sp.applyM opC
 unfold knowsM at h
 obtain ⟨h1, h2⟩ := hk
 obtain ⟨h3, h4⟩ := hc
 have hks : k = 1 ∨ k = 2 ∨ k = 3 ∨ k = 4 := by omega
 have hcs : c.k = 1 ∨ c.k = 2 ∨ c.k = 3 ∨ c.k = 4 ∨ c.k = 5 ∨ c.k = 6 ∨ c.k = 7 ∨ c.k = 8 ∨ c.k = 9 := by omega
 rcases hks with rfl | rfl | rfl | rfl <;> rcases hcs with e | e | e | e | e | e | e | e | e <;> rw [e] at h ⊢ <;> first | (exact absurd h (by decide)) | (simp [Sp.regM, Sp.mapM, Sp.queM, Sp.mapP']; done)
theorem tm14 (c : Int) : -14 < c.tmod 14 ∧ c.tmod 14 < 14 := by rw [Int.tmod_eq_emod]; split <;> omega
def nM (c : Int) : Int := (c.tmod 14 + 14).tmod 14
theorem wn14 (c : Int) : (IntKind.i64.wrap (c.tmod 14 + 14)).tmod 14 = nM c := by
 have := tm14 c
 rw [Hi.i64w (by omega) (by omega)]; rfl
theorem nM_rng (c : Int) : 0 ≤ nM c ∧ nM c ≤ 13 := by
 have := tm14 c
 unfold nM; rw [Int.tmod_eq_emod]; split <;> omega
theorem hm8 (i : Nat) : (i : Int).tmod 8 = ((i % 8 : Nat) : Int) := by rw [Int.tmod_eq_emod_of_nonneg (by omega)]; omega
end Go.Proofs.YtpcjeaaplidmaaaDoor